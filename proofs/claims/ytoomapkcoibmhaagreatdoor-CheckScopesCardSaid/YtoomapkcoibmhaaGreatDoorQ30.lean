/- A part of the proof. -/
import Derived.Test.YtoomapkcoibmhaaGreatDoorQ29
set_option maxRecDepth 100000
set_option maxHeartbeats 12800000
set_option linter.all false
section
open Go Go.Proofs Go.RowKit Go.Shelf Go.Maps Ck
namespace Go.Proofs.YtoomapkcoibmhaaGreatDoor
attribute [local go_sem] Oper.semAt_some
theorem node23_any {S:CSt} {N:Nat} (ih:NAny S N) (n:Ck.Node) (ks:List Tree) (rest:List Ck.Node) (i d k B:Nat) (s:CS) (ms:List Nat) (w:World) (hs:(Tree.mk n ks).size≤N+1) (hT:S.R.drop i=(Tree.mk n ks).row++rest) (hA:(Tree.mk n ks).all Shp) (hms:ms≠[]) (hb:Bd s B) (hB:B+(Tree.mk n ks).size≤1099511627776) (hsc:s.scopes.length≤d) (hlp:s.loops.length≤d) (hd:d≤257) (hkk:k≤1099511627776) (hK:CK S s ms w)
  (t2:(n.kind==2)=false) (t3:(n.kind==3)=false) (t4:(n.kind==4)=false) (t5:(n.kind==5)=false) (t6:(n.kind==6)=false) (t10:(n.kind==10)=false) (t11:(n.kind==11)=false) (t12:(n.kind==12)=false) (t25:(n.kind==25)=false) (t7:(n.kind==7)=false) (t23:(n.kind==23)=true) (t13:(n.kind==13)=false) (t14:(n.kind==14)=false) :
  Calls Tryz.prog 29 #[.pointer (some ⟨S.bp,0,none⟩),.int .i64 (i:Int),.int .i64 (d:Int),.int .i64 (k:Int)] w (COut S ms w (chk S.E (Tree.mk n ks) d k s)):=by
 obtain⟨r,hr⟩:∃r,Hid (chk S.E (Tree.mk n ks) d k s=r):=⟨_,rfl⟩
 rw[hr.out]
 have HM:Hid ((need (decide (256<d)) 71 n.at' >>= fun _=>(match (match lookup S.E.params n.text with|some a=>some a|none=>arity n.text) with|none=>(Except.error ⟨63,n.at'⟩ >>= fun(_:Unit)=>chks S.E ks (d+1) 0 s)|some a=>need (a != (ks.length:Int)) 81 n.at' >>= fun _=>chks S.E ks (d+1) 0 s))=r):=by
  have h1:=hr.out
  unfold chk at h1
  simp only[t2,t3,t4,t5,t6,t10,t11,t12,t25,t7,t23,t13,t14,Bool.or_false,Bool.false_or,Bool.or_true,Bool.true_or,Bool.or_self,Bool.false_eq_true,if_true,if_false,reduceIte]at h1
  exact h1
 clear hr
 obtain⟨hrow,hnode⟩:=row_tail hT
 have hszT:(Tree.mk n ks).size=sizes ks+1:=by simp[Tree.size]
 have hkl:ks.length≤sizes ks:=by rw[←rows_sizes];exact rowsGe ks
 have hil:(i:Int)<S.R.length:=by have:=(List.getElem?_eq_some_iff.1 hnode).1;omega
 have hx:n.text.length≤140737488351232:=(hK.ok _ (List.mem_of_getElem? hnode)).text
 obtain⟨sv,lv,hb0,_,_⟩:=hK.ex
 obtain⟨rc,rz,rset,rb⟩:=hb0.rules
 have hlim:=hK.lim;have hgl0:=hK.rat.gl
 obtain⟨rc0,hgl,rbk,n0,n1,n2,n3,n4,n5⟩:=nrd hK hnode
 obtain⟨W5,hW5⟩:∃X,X=nw S n i d ks w:=⟨_,rfl⟩
 obtain⟨hF5,k4,k5,k6,k8,k9,k10⟩:=hW5 ▸ npre S n i d ks w
 unfold nw at hW5
 have hK5:=hK.fr hF5
 obtain⟨sv5,lv5,hb5,_,_⟩:=hK5.ex
 have hk:=kids_any S.bp S.R rest i S.g S.c n ks hT hlim W5 hK5.rat _ hb5 rfl
 have hcw:=nfault_any (S:=S) (ms:=ms) (w:=w) (decide (256<(d:Int))) 71 (ks.length:Int) (w.heap.size+1+1+1) n k8 hK5.low HM (by simp;omega)
 have HK5:=Lib.hid hK5;have HT:=Lib.hid hT;have HR:=Lib.hid hrow;have HN:=Lib.hid hnode;have HA:=Lib.hid hA;have HF5:=Lib.hid hF5;have HKx:=Lib.hid hK;have HB:=Lib.hid hb
 clear hK5 hT hrow hnode hA hF5 hK hb hb5 HM hb0
 have hdi:(d:Int)≤300:=by omega
 have hki:(k:Int)≤1099511627776:=by omega
 go_enter Tryz.func29,Tryz.ntmps29
 go_wp2_with (fail)
 go_region
 go_wp2_with (fail)
 rw[←hW5]
 clear hW5 rc rz rset rb rc0 hgl0 hgl rbk n0 n1 n2 n3 n4 n5
 go_at_call 50
 refine hcw.mono ?_
 clear hcw
 rintro e1 w1 (⟨ft,rfl,hout⟩|⟨rfl,rfl,hq1,HM⟩)
 ·exact⟨rfl,hout⟩
 have hd2:d≤256:=by simpa using hq1
 obtain⟨c4,z4,s4,l4⟩:=k4.rules
 obtain⟨c5,z5,s5,l5⟩:=k5.rules
 go_wp2_with (fail)
 go_at_call 31
 refine hk.mono ?_
 clear hk c4 z4 s4 l4 c5 z5 s5 l5
 rintro e2 w2 ⟨v,rfl,hown,hf2⟩
 obtain⟨g',cur,sa,sc,rfl,hgb,hcur,hsa,hcap⟩:=kids_blk hown (k5.fr hf2 (by simp))
 obtain⟨W,hW⟩:∃X,X=w2.alloc (.cells #[.slice sa ks.length sc] 36):=⟨_,rfl⟩
 have hfW:Fr [] w2 W:=by rw[hW];exact(Fr.refl _ _).alloc _
 have hf5W:Fr [] W5 W:=hf2.trans hfW
 have nf:NF S n i d ks w.heap.size (w.heap.size+1) (w.heap.size+1+1) (w.heap.size+1+1+1) (w.heap.size+1+1+1+1) (w.heap.size+1+1+1+1+1) w2.heap.size g' sc sa cur W :=
  ⟨k4.fr hf5W (by simp),k5.fr hf5W (by simp),k6.fr hf5W (by simp),k8.fr hf5W (by simp),k9.fr hf5W (by simp),k10.fr hf5W (by simp),by rw[hW];exact Blk.new _ _ _,hgb.fr hfW (by simp),fun j q hj=>hcur j _ (by simp[ivals,hj]),fun hne=>hsa (List.length_pos_iff.2 hne),hcap⟩
 have hKW:=HK5.out.fr hf5W
 have hcW:Ct w W:=Ct.of_fr (HF5.out.trans hf5W)
 clear hfW hf5W hgb hcur hsa hown hf2 k4 k5 k6 k8 k9 k10 HK5 HF5
 go_upto_region 7 with(fail)
 rw[←hW]
 clear hW
 generalize w2.heap.size=b12 at *
 obtain⟨c8,z8,s8,l8⟩:=nf.h8.rules
 obtain⟨nn,D,hown,hnn,hmap⟩:=hKW.par
 have hkey:=strKl (x:=n.text) (by simp[maxLen];omega)
 obtain⟨c4,z4,s4,l4⟩:=nf.h4.rules
 obtain⟨c9,z9,s9,l9⟩:=nf.h9.rules
 obtain⟨c10,z10,s10,l10⟩:=nf.h10.rules
 obtain⟨c12,z12,s12,l12⟩:=nf.h12.rules
 obtain⟨sv,lv,hbk,_,_⟩:=hKW.ex
 obtain⟨cb,zb,sb,lb⟩:=hbk.rules
 have hhas:=(hmap n.text).1
 have hat:=(hmap n.text).2
 cases hl:lookup S.E.params n.text with
 | some a =>
  rw[hl]at hhas hat
  simp only[Option.isSome_some,Option.getD_some]at hhas hat
  have HM2:Hid ((need (a != (ks.length:Int)) 81 n.at' >>= fun _=>chks S.E ks (d+1) 0 s)=r):=by
   have h1:=HM.out
   rw[hl]at h1
   exact h1
  go_wp2_with (fail)
  have hS:(fun X:World=>X=W.drew) W.drew:=rfl
  refine wp_region_held (S:=fun X:World=>X=W.drew) (by kernel_rfl) ?_
  refine tk 0 (.pointer (some ⟨S.bp,0,none⟩)) rfl hS (fun X hX=>?_) ?_
  ·subst hX;go_simp
  simp only[Act.put,acts]
  refine tk 1 (.pointer (some ⟨S.bp,0,none⟩)) rfl hS (fun X hX=>?_) ?_
  ·go_simp
  simp only[Act.put,acts]
  refine tk 2 (.pointer (some ⟨S.bp,3,none⟩)) rfl hS (fun X hX=>?_) ?_
  ·go_simp
  simp only[Act.put,acts]
  refine tk 3 (.map (some S.mp)) rfl hS (fun X hX=>?_) ?_
  ·subst hX;go_simp
  simp only[Act.put,acts]
  refine tk 4 (.pointer (some ⟨w.heap.size+1+1+1,3,none⟩)) rfl hS (fun X hX=>?_) ?_
  ·go_simp
  simp only[Act.put,acts]
  refine tk 5 (.string ⟨n.text.toArray⟩) rfl hS (fun X hX=>?_) ?_
  ·subst hX;go_simp
  simp only[Act.put,acts]
  refine wpAnyH_all (rs:=[6]) (by kernel_rfl) (by simp) ?_
  intro i2 hi2
  obtain rfl:i2=6:=by simpa using hi2
  refine wpOp_step rfl (fun K0 hK0=>?_)
  rw[if_pos (by kernel_rfl)]
  refine wp_lookup_int_step W.drew (.tmp 276) (.tmp 278) 65 rfl 9 3 .i64 strKey Tryz.underlying65 Tryz.underlying3 (zeroI _) S.mp nn D (by kernel_rfl) (ownsMap_eq hown ((Fr.refl [] W).drew.block _ hown.lt List.not_mem_nil)) (.string ⟨n.text.toArray⟩) _ (by kernel_rfl) hkey ?_
  intro c hc1
  rw[hhas]
  rw[hat]at hc1
  obtain rfl:a=c:=by simpa using hc1
  refine hK0 _ _ ⟨hS,?_⟩
  refine tk 7 (.tuple #[.int .i64 a,.bool true]) rfl hS (fun X hX=>?_) ?_
  ·go_simp
  simp only[Act.put,acts]
  refine tk 8 (.int .i64 a) rfl hS (fun X hX=>?_) ?_
  ·go_simp
  simp only[Act.put,acts]
  refine tk 9 (.bool true) rfl hS (fun X hX=>?_) ?_
  ·go_simp
  simp only[Act.put,acts]
  refine tk 10 (.int .i64 a) rfl hS (fun X hX=>?_) ?_
  ·go_simp
  simp only[Act.put,acts]
  refine tk 11 (.bool true) rfl hS (fun X hX=>?_) ?_
  ·go_simp
  simp only[Act.put,acts]
  refine wpAnyH_done (by kernel_rfl) ?_ _
  have hf8:Fr [] W W.drew:=(Fr.refl _ _).drew
  have hflt:=nfault_any (S:=S) (ms:=ms) (w:=w) (a != (ks.length:Int)) 81 (ks.length:Int) (w.heap.size+1+1+1) n (nf.h8.fr hf8 (by simp)) (hKW.fr hf8).low HM2 rfl
  go_wp2_with (fail)
  go_at_call 50
  refine(cwrong_any false 63 (w.heap.size+1+1+1) { n with kids:=(ks.length:Int) } W.drew (nf.h8.fr hf8 (by simp))).mono ?_
  rintro e7 w7 (⟨hf,_,_⟩|⟨_,rfl,rfl⟩)
  ·cases hf
  go_wp2_with (fail)
  go_at_call 50
  refine hflt.mono ?_
  rintro e8 w8 (⟨ft,rfl,hout⟩|⟨rfl,rfl,hq2,HM⟩)
  ·exact⟨rfl,hout⟩
  replace nf:=nf.ct (Ct.of_fr hf8)
  replace hKW:=hKW.fr hf8
  replace hcW:=hcW.trans (Ct.of_fr hf8)
  clear hflt
  have hea:=nf.each ih rest B s ms (by omega) HR.out HA.out.2 hms HB.out (by omega) (by omega) (by omega) hKW (by omega)
  go_wp2_with (fail)
  go_at_call 51
  refine hea.mono ?_
  rintro e5 w5 ho
  rcases ho.last HM hcW with⟨ft,h1,rfl,h3⟩|⟨s2,h1,rfl,K2,C2⟩
  ·exact⟨rfl,.inl ⟨ft,h1,rfl,h3⟩⟩
  ·go_wp2
   go_end0
   exact .inr ⟨s2,h1,rfl,K2,C2⟩
 | none =>
  rw[hl]at hhas hat
  simp only[Option.isSome_none,Option.getD_none]at hhas hat
  go_wp2_with (fail)
  have hS:(fun X:World=>X=W.drew) W.drew:=rfl
  refine wp_region_held (S:=fun X:World=>X=W.drew) (by kernel_rfl) ?_
  refine tk 0 (.pointer (some ⟨S.bp,0,none⟩)) rfl hS (fun X hX=>?_) ?_
  ·subst hX;go_simp
  simp only[Act.put,acts]
  refine tk 1 (.pointer (some ⟨S.bp,0,none⟩)) rfl hS (fun X hX=>?_) ?_
  ·go_simp
  simp only[Act.put,acts]
  refine tk 2 (.pointer (some ⟨S.bp,3,none⟩)) rfl hS (fun X hX=>?_) ?_
  ·go_simp
  simp only[Act.put,acts]
  refine tk 3 (.map (some S.mp)) rfl hS (fun X hX=>?_) ?_
  ·subst hX;go_simp
  simp only[Act.put,acts]
  refine tk 4 (.pointer (some ⟨w.heap.size+1+1+1,3,none⟩)) rfl hS (fun X hX=>?_) ?_
  ·go_simp
  simp only[Act.put,acts]
  refine tk 5 (.string ⟨n.text.toArray⟩) rfl hS (fun X hX=>?_) ?_
  ·subst hX;go_simp
  simp only[Act.put,acts]
  refine wpAnyH_all (rs:=[6]) (by kernel_rfl) (by simp) ?_
  intro i2 hi2
  obtain rfl:i2=6:=by simpa using hi2
  refine wpOp_step rfl (fun K0 hK0=>?_)
  rw[if_pos (by kernel_rfl)]
  refine wp_lookup_int_step W.drew (.tmp 276) (.tmp 278) 65 rfl 9 3 .i64 strKey Tryz.underlying65 Tryz.underlying3 (zeroI _) S.mp nn D (by kernel_rfl) (ownsMap_eq hown ((Fr.refl [] W).drew.block _ hown.lt List.not_mem_nil)) (.string ⟨n.text.toArray⟩) _ (by kernel_rfl) hkey ?_
  intro c hc1
  rw[hhas]
  rw[hat]at hc1
  obtain rfl:0=c:=by simpa using hc1
  refine hK0 _ _ ⟨hS,?_⟩
  refine tk 7 (.tuple #[.int .i64 0,.bool false]) rfl hS (fun X hX=>?_) ?_
  ·go_simp
  simp only[Act.put,acts]
  refine tk 8 (.int .i64 0) rfl hS (fun X hX=>?_) ?_
  ·go_simp
  simp only[Act.put,acts]
  refine tk 9 (.bool false) rfl hS (fun X hX=>?_) ?_
  ·go_simp
  simp only[Act.put,acts]
  refine tk 10 (.int .i64 0) rfl hS (fun X hX=>?_) ?_
  ·go_simp
  simp only[Act.put,acts]
  refine tk 11 (.bool false) rfl hS (fun X hX=>?_) ?_
  ·go_simp
  simp only[Act.put,acts]
  refine wpAnyH_done (by kernel_rfl) ?_ _
  go_wp2_with (fail)
  have har:=arity_any n.text (by simp[maxLen];omega) W.drew
  go_at_call 54
  refine har.mono ?_
  rintro e6 w6 ⟨rfl,hf6⟩
  have hf8:Fr [] W w6:=((Fr.refl [] _).drew).trans hf6
  obtain⟨c9,z9,s9,l9⟩:=(nf.h9.fr hf8 (by simp)).rules
  obtain⟨c8,z8,s8,l8⟩:=(nf.h8.fr hf8 (by simp)).rules
  obtain⟨c10,z10,s10,l10⟩:=(nf.h10.fr hf8 (by simp)).rules
  obtain⟨c12,z12,s12,l12⟩:=(nf.h12.fr hf8 (by simp)).rules
  cases hal:Ck.arity n.text with
  | none =>
   simp only[Option.isSome_none,Option.getD_none]
   go_wp2_with (fail)
   go_at_call 50
   refine(cwrong_any true 63 (w.heap.size+1+1+1) { n with kids:=(ks.length:Int) } w6 (nf.h8.fr hf8 (by simp))).mono ?_
   rintro e7 w7 (⟨_,rfl,rfl⟩|⟨hf,_,_⟩)
   ·refine⟨rfl,.inl ⟨⟨63,n.at'⟩,?_,rfl,(hKW.fr hf8).low⟩⟩
    have h1:=HM.out
    rw[hl,hal]at h1
    exact h1.symm
   ·cases hf
  | some a =>
   simp only[Option.isSome_some,Option.getD_some]
   have HM2:Hid ((need (a != (ks.length:Int)) 81 n.at' >>= fun _=>chks S.E ks (d+1) 0 s)=r):=by
    have h1:=HM.out
    rw[hl,hal]at h1
    exact h1
   have hflt:=nfault_any (S:=S) (ms:=ms) (w:=w) (a != (ks.length:Int)) 81 (ks.length:Int) (w.heap.size+1+1+1) n (nf.h8.fr hf8 (by simp)) (hKW.fr hf8).low HM2 rfl
   go_wp2_with (fail)
   go_at_call 50
   refine(cwrong_any false 63 (w.heap.size+1+1+1) { n with kids:=(ks.length:Int) } w6 (nf.h8.fr hf8 (by simp))).mono ?_
   rintro e7 w7 (⟨hf,_,_⟩|⟨_,rfl,rfl⟩)
   ·cases hf
   go_wp2_with (fail)
   go_at_call 50
   refine hflt.mono ?_
   rintro e8 w8 (⟨ft,rfl,hout⟩|⟨rfl,rfl,hq2,HM⟩)
   ·exact⟨rfl,hout⟩
   replace nf:=nf.ct (Ct.of_fr hf8)
   replace hKW:=hKW.fr hf8
   replace hcW:=hcW.trans (Ct.of_fr hf8)
   clear hflt
   have hea:=nf.each ih rest B s ms (by omega) HR.out HA.out.2 hms HB.out (by omega) (by omega) (by omega) hKW (by omega)
   go_wp2_with (fail)
   go_at_call 51
   refine hea.mono ?_
   rintro e5 w5 ho
   rcases ho.last HM hcW with⟨ft,h1,rfl,h3⟩|⟨s2,h1,rfl,K2,C2⟩
   ·exact⟨rfl,.inl ⟨ft,h1,rfl,h3⟩⟩
   ·go_wp2
    go_end0
    exact .inr ⟨s2,h1,rfl,K2,C2⟩
end Go.Proofs.YtoomapkcoibmhaaGreatDoor
end
