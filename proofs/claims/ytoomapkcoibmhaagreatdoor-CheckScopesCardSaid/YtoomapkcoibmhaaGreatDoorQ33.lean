/- A part of the proof. -/
import Derived.Test.YtoomapkcoibmhaaGreatDoorQ29
set_option maxRecDepth 100000
set_option maxHeartbeats 12800000
set_option linter.all false
section
open Go Go.Proofs Go.RowKit Go.Shelf Go.Maps Ck
namespace Go.Proofs.YtoomapkcoibmhaaGreatDoor
attribute [local go_sem] Oper.semAt_some
theorem node10b_any {S:CSt} {N:Nat} (ih:NAny S N) (n:Ck.Node) (ks:List Tree) (rest:List Ck.Node) (i d k B:Nat) (s:CS) (ms:List Nat) (w:World) (hs:(Tree.mk n ks).size≤N+1) (hT:S.R.drop i=(Tree.mk n ks).row++rest) (hA:(Tree.mk n ks).all Shp) (hms:ms≠[]) (hb:Bd s B) (hB:B+(Tree.mk n ks).size≤1099511627776) (hsc:s.scopes.length≤d) (hlp:s.loops.length≤d) (hd:d≤257) (hkk:k≤1099511627776) (hK:CK S s ms w)
  (hx0:¬n.text=[]) (t2:(n.kind==2)=false) (t3:(n.kind==3)=false) (t4:(n.kind==4)=false) (t5:(n.kind==5)=false) (t6:(n.kind==6)=false) (t10:(n.kind==10)=true) (t11:(n.kind==11)=false) (t12:(n.kind==12)=false) (t25:(n.kind==25)=false) (t7:(n.kind==7)=false) (t23:(n.kind==23)=false) (t13:(n.kind==13)=false) (t14:(n.kind==14)=false) :
  Calls Tryz.prog 29 #[.pointer (some ⟨S.bp,0,none⟩),.int .i64 (i:Int),.int .i64 (d:Int),.int .i64 (k:Int)] w (COut S ms w (chk S.E (Tree.mk n ks) d k s)):=by
 obtain⟨r,hr⟩:∃r,Hid (chk S.E (Tree.mk n ks) d k s=r):=⟨_,rfl⟩
 rw[hr.out]
 have HM:Hid ((need (decide (256<d)) 71 n.at' >>= fun _=>(need (n.text != []&&s.loops.contains n.text) 80 n.at' >>= fun _=>need (decide (1000<(Tree.mk n ks).size)) 85 n.at' >>= fun _=>chkW S.E ks (d+1) n.text s))=r):=by
  have h1:=hr.out
  unfold chk at h1
  simp only[t2,t3,t4,t5,t6,t10,t11,t12,t25,t7,t23,t13,t14,Bool.or_false,Bool.false_or,Bool.or_true,Bool.true_or,Bool.or_self,Bool.false_eq_true,if_true,if_false,reduceIte]at h1
  exact h1
 clear hr
 obtain⟨hrow,hnode⟩:=row_tail hT
 have hszT:(Tree.mk n ks).size=sizes ks+1:=by simp[Tree.size]
 have hkl:ks.length≤sizes ks:=by rw[←rows_sizes];exact rowsGe ks
 have hil:(i:Int)<S.R.length:=by have:=(List.getElem?_eq_some_iff.1 hnode).1;omega
 have hx:n.text.length≤140737488351232:=(hK.ok _ (List.mem_of_getElem? hnode)).text
 obtain⟨sv,lv,hb0,_,_⟩:=hK.ex
 obtain⟨rc,rz,rset,rb⟩:=hb0.rules
 have hlim:=hK.lim;have hgl0:=hK.rat.gl
 obtain⟨rc0,hgl,rbk,n0,n1,n2,n3,n4,n5⟩:=nrd hK hnode
 obtain⟨W5,hW5⟩:∃X,X=nw S n i d ks w:=⟨_,rfl⟩
 obtain⟨hF5,k4,k5,k6,k8,k9,k10⟩:=hW5 ▸ npre S n i d ks w
 unfold nw at hW5
 have hK5:=hK.fr hF5
 obtain⟨sv5,lv5,hb5,_,_⟩:=hK5.ex
 have hk:=kids_any S.bp S.R rest i S.g S.c n ks hT hlim W5 hK5.rat _ hb5 rfl
 have hcw:=nfault_any (S:=S) (ms:=ms) (w:=w) (decide (256<(d:Int))) 71 (ks.length:Int) (w.heap.size+1+1+1) n k8 hK5.low HM (by simp;omega)
 have HK5:=Lib.hid hK5;have HT:=Lib.hid hT;have HR:=Lib.hid hrow;have HN:=Lib.hid hnode;have HA:=Lib.hid hA;have HF5:=Lib.hid hF5;have HKx:=Lib.hid hK;have HB:=Lib.hid hb
 clear hK5 hT hrow hnode hA hF5 hK hb hb5 HM hb0
 have hdi:(d:Int)≤300:=by omega
 have hki:(k:Int)≤1099511627776:=by omega
 go_enter Tryz.func29,Tryz.ntmps29
 go_wp2_with (fail)
 go_region
 go_wp2_with (fail)
 rw[←hW5]
 clear hW5 rc rz rset rb rc0 hgl0 hgl rbk n0 n1 n2 n3 n4 n5
 go_at_call 50
 refine hcw.mono ?_
 clear hcw
 rintro e1 w1 (⟨ft,rfl,hout⟩|⟨rfl,rfl,hq1,HM⟩)
 ·exact⟨rfl,hout⟩
 have hd2:d≤256:=by simpa using hq1
 obtain⟨c4,z4,s4,l4⟩:=k4.rules
 obtain⟨c5,z5,s5,l5⟩:=k5.rules
 go_wp2_with (fail)
 go_at_call 31
 refine hk.mono ?_
 clear hk c4 z4 s4 l4 c5 z5 s5 l5
 rintro e2 w2 ⟨v,rfl,hown,hf2⟩
 obtain⟨g',cur,sa,sc,rfl,hgb,hcur,hsa,hcap⟩:=kids_blk hown (k5.fr hf2 (by simp))
 obtain⟨W,hW⟩:∃X,X=w2.alloc (.cells #[.slice sa ks.length sc] 36):=⟨_,rfl⟩
 have hfW:Fr [] w2 W:=by rw[hW];exact(Fr.refl _ _).alloc _
 have hf5W:Fr [] W5 W:=hf2.trans hfW
 have nf:NF S n i d ks w.heap.size (w.heap.size+1) (w.heap.size+1+1) (w.heap.size+1+1+1) (w.heap.size+1+1+1+1) (w.heap.size+1+1+1+1+1) w2.heap.size g' sc sa cur W :=
  ⟨k4.fr hf5W (by simp),k5.fr hf5W (by simp),k6.fr hf5W (by simp),k8.fr hf5W (by simp),k9.fr hf5W (by simp),k10.fr hf5W (by simp),by rw[hW];exact Blk.new _ _ _,hgb.fr hfW (by simp),fun j q hj=>hcur j _ (by simp[ivals,hj]),fun hne=>hsa (List.length_pos_iff.2 hne),hcap⟩
 have hKW:=HK5.out.fr hf5W
 have hcW:Ct w W:=Ct.of_fr (HF5.out.trans hf5W)
 clear hfW hf5W hgb hcur hsa hown hf2 k4 k5 k6 k8 k9 k10 HK5 HF5
 go_upto_region 7 with(fail)
 rw[←hW]
 clear hW
 generalize w2.heap.size=b12 at *
 obtain⟨c8,z8,s8,l8⟩:=nf.h8.rules
 obtain⟨sv,lv,hbk,_,hlr⟩:=hKW.ex
 obtain⟨la,lc,rfl⟩:=owns_form hlr
 have hll:(s.loops.length:Int)≤300:=by omega
 have hcon:=contains_any W.drew (.slice la s.loops.length lc) s.loops.reverse n.text (StrSlice.fr (S:=[]) (owns_str hlr) (Fr.refl [] _).drew (fun _ _ _ _=>List.not_mem_nil)) (by rw[List.length_reverse];omega)
 rw[contains_rev]at hcon
 obtain⟨lb,hlb⟩:∃lb:Bool,s.loops.contains n.text=lb:=⟨_,rfl⟩
 rw[hlb]at hcon
 have HLB:=Lib.hid hlb
 clear hlb
 go_wp2_with (fail)
 cases lb with
 | true =>
  have hS:(SL S w.heap.size (w.heap.size+1+1+1) (w.heap.size+1+1+1+1) n.text (.slice la s.loops.length lc)) W.drew:=⟨nf.sr.drew,hbk.rules.1 6⟩
  refine wp_region_held (S:=SL S w.heap.size (w.heap.size+1+1+1) (w.heap.size+1+1+1+1) n.text (.slice la s.loops.length lc)) (by kernel_rfl) ?_
  refine tk 0 (.func (.func 50) #[] #[.pointer (some ⟨w.heap.size+1+1+1,0,none⟩)]) rfl hS (fun X hX=>?_) ?_
  ·obtain⟨⟨hX1,hX2,hX3⟩,hX4⟩:=hX;go_simp
  simp only[Act.put,acts]
  refine tk 1 (.pointer (some ⟨w.heap.size+1+1+1,3,none⟩)) rfl hS (fun X hX=>?_) ?_
  ·go_simp
  simp only[Act.put,acts]
  refine tk 2 (.string ⟨n.text.toArray⟩) rfl hS (fun X hX=>?_) ?_
  ·obtain⟨⟨hX1,hX2,hX3⟩,hX4⟩:=hX;go_simp
  simp only[Act.put,acts]
  refine tk 3 (.bool true) rfl hS (fun X hX=>?_) ?_
  ·go_simp;try simp[hx0]
  simp only[Act.put,acts]
  refine tk 4 (.bool true) rfl hS (fun X hX=>?_) ?_
  ·go_simp
  simp only[Act.put,acts]
  refine tk 5 (.pointer (some ⟨S.bp,0,none⟩)) rfl hS (fun X hX=>?_) ?_
  ·obtain⟨⟨hX1,hX2,hX3⟩,hX4⟩:=hX;go_simp
  simp only[Act.put,acts]
  refine tk 6 (.pointer (some ⟨S.bp,0,none⟩)) rfl hS (fun X hX=>?_) ?_
  ·go_simp
  simp only[Act.put,acts]
  refine tk 7 (.pointer (some ⟨S.bp,6,none⟩)) rfl hS (fun X hX=>?_) ?_
  ·go_simp
  simp only[Act.put,acts]
  refine tk 8 (.slice la s.loops.length lc) rfl hS (fun X hX=>?_) ?_
  ·obtain⟨⟨hX1,hX2,hX3⟩,hX4⟩:=hX;go_simp
  simp only[Act.put,acts]
  refine tk 9 (.pointer (some ⟨w.heap.size+1+1+1,3,none⟩)) rfl hS (fun X hX=>?_) ?_
  ·go_simp
  simp only[Act.put,acts]
  refine tk 10 (.string ⟨n.text.toArray⟩) rfl hS (fun X hX=>?_) ?_
  ·obtain⟨⟨hX1,hX2,hX3⟩,hX4⟩:=hX;go_simp
  simp only[Act.put,acts]
  refine wpAnyH_all (rs:=[11]) (by kernel_rfl) (by simp) ?_
  intro i2 hi2
  obtain rfl:i2=11:=by simpa using hi2
  refine wpOp_step rfl (fun K0 hK0=>?_)
  rw[if_pos (by kernel_rfl)]
  go_simp
  refine hcon.mono ?_
  rintro e3 w3 ⟨rfl,rfl⟩
  refine hK0 _ _ ⟨hS,?_⟩
  refine tk 12 (.bool true) rfl hS (fun X hX=>?_) ?_
  ·go_simp
  simp only[Act.put,acts]
  have hflt:=nfault_any (S:=S) (ms:=ms) (w:=w) (true) 80 (ks.length:Int) (w.heap.size+1+1+1) n (nf.h8.fr (Fr.refl [] _).drew (by simp)) (hKW.fr (Fr.refl [] _).drew).low HM (by rw[HLB.out];simp[hx0])
  refine wpAnyH_all (rs:=[13]) (by kernel_rfl) (by simp) ?_
  intro i2 hi2
  obtain rfl:i2=13:=by simpa using hi2
  refine wpOp_step rfl (fun K0 hK0=>?_)
  rw[if_pos (by kernel_rfl)]
  go_simp
  refine hflt.mono ?_
  rintro e4 w4 (⟨ft,rfl,hout⟩|⟨_,_,hq2,_⟩)
  ·exact⟨rfl,hout⟩
  ·exfalso
   rw[HLB.out]at hq2
   simp at hq2
   exact hx0 hq2
 | false =>
  have hcq:∀q,Calls Tryz.prog 61 #[.slice la s.loops.length lc,.string ⟨n.text.toArray⟩] (W.drewN q) fun e w''=>e=.returned (.bool false)∧∃m,w''=W.drewN m:=fun q=>Calls.quiet_of_same ((contains_any (W.drewN q) (.slice la s.loops.length lc) s.loops.reverse n.text (StrSlice.fr (S:=[]) (owns_str hlr) ((Fr.refl [] _).drewN q) (fun _ _ _ _=>List.not_mem_nil)) (by rw[List.length_reverse];omega)).mono (fun e w' h=>⟨by rw[h.1,contains_rev,HLB.out],h.2.symm⟩))
  have hfq:∀q,Calls Tryz.prog 50 #[.bool false,.int .i64 80,.pointer (some ⟨w.heap.size+1+1+1,0,none⟩)] (W.drewN q) fun e w''=>e=.returned (.tuple #[])∧∃m,w''=W.drewN m:=fun q=>Calls.quiet_of_same ((cwrong_any false 80 (w.heap.size+1+1+1) { n with kids:=(ks.length:Int) } (W.drewN q) (nf.h8.fr ((Fr.refl [] _).drewN q) List.not_mem_nil)).mono (fun e w' h=>by
   rcases h with⟨h,_⟩|⟨_,h1,h2⟩
   ·cases h
   ·exact⟨h1,h2.symm⟩))
  obtain⟨c4,z4,s4,l4⟩:=nf.h4.rules
  obtain⟨c9,z9,s9,l9⟩:=nf.h9.rules
  obtain⟨cb,zb,sb,lb0⟩:=hbk.rules
  have hA2:=HA.out.1
  have hml:=hKW.sets.length
  have hbig:=fun q=>big_any S hlim { n with kids:=(ks.length:Int) } (Tree.mk n ks) rest i (w.heap.size+1+1+1) (w.heap.size+1+1+1+1) w.heap.size (w.heap.size+1) (W.drewN q) HT.out (hKW.hw.fr ((Fr.refl [] _).drewN q) List.not_mem_nil List.not_mem_nil) (nf.h8.fr ((Fr.refl [] _).drewN q) List.not_mem_nil) (nf.h9.fr ((Fr.refl [] _).drewN q) List.not_mem_nil) (nf.h4.fr ((Fr.refl [] _).drewN q) List.not_mem_nil) (nf.h5.fr ((Fr.refl [] _).drewN q) List.not_mem_nil) (by omega)
  have HM2:Hid ((need (decide (1000<(Tree.mk n ks).size)) 85 n.at' >>= fun _=>chkW S.E ks (d+1) n.text s)=r):=by
   have h1:=HM.out
   have e1:(n.text != []&&s.loops.contains n.text)=false:=by rw[HLB.out];simp
   rw[e1]at h1
   exact h1
  go_wp2_with (first|(go_quiet (first|(go_at_call 61;exact hcq _)|(go_at_call 50;exact hfq _))))
  have HX0:=Lib.hid hx0
  clear hx0
  go_at_call 52
  refine(hbig _).mono ?_
  rintro e6 w6 (⟨hbg,rfl,hf6⟩|⟨hbg,rfl,hf6⟩)
  ·refine⟨rfl,.inl ⟨⟨85,n.at'⟩,?_,rfl,(hKW.fr (((Fr.refl [] W).drewN _).trans hf6)).low⟩⟩
   have h1:=HM2.out
   rw[show decide (1000<(Tree.mk n ks).size)=true from decide_eq_true hbg]at h1
   exact h1.symm
  have HM3:Hid (chkW S.E ks (d+1) n.text s=r):=by
   have h1:=HM2.out
   rw[show decide (1000<(Tree.mk n ks).size)=false from decide_eq_false hbg]at h1
   exact h1
  have hfV:Fr [] W w6:=((Fr.refl [] W).drewN _).trans hf6
  replace nf:=nf.ct (Ct.of_fr hfV)
  replace hKW:=hKW.fr hfV
  replace hcW:=hcW.trans (Ct.of_fr hfV)
  clear HM HM2 hbig hcq hfq hcon c4 z4 s4 l4 c9 z9 s9 l9 cb zb sb lb0 c8 z8 s8 l8 hbk hlr hf6 hfV
  have HM:=HM3
  clear HM3
  have hn2:ks.length=2:=(hA2).2.2.1 (by simpa using t10)
  obtain⟨tc,tb,hks⟩:∃tc tb,ks=[tc,tb]:=by
   rcases ks with _|⟨a,_|⟨b,_|⟨c,l⟩⟩⟩<;>simp at hn2
   exact⟨a,b,rfl⟩
  have hk0:ks[0]? = some tc:=by rw[hks];rfl
  have hk1:ks[1]? = some tb:=by rw[hks];rfl
  have hsk:sizes ks=tc.size+tb.size:=by rw[hks];simp[sizes]
  obtain⟨p0,r0,hp0,hT0⟩:=kid_at HR.out hk0
  obtain⟨p1,r1,hp1,hT1⟩:=kid_at HR.out hk1
  have hcur0:=nf.hc 0 p0 hp0
  have hcur1:=nf.hc 1 p1 hp1
  have htA0:tc.all Shp:=alls_mem HA.out.2 tc (List.mem_of_getElem? hk0)
  have htA1:tb.all Shp:=alls_mem HA.out.2 tb (List.mem_of_getElem? hk1)
  obtain rfl:=nf.hsa (by rintro rfl;cases hk0)
  have hl1:(1:Int)<ks.length:=by omega
  have hl00:(0:Int)<ks.length:=by omega
  have HN2:=Lib.hid hn2
  clear hn2
  have hB0:Bd s B:=HB.out
  have hq0:s.scopes.length≤d∧s.loops.length≤d:=⟨hsc,hlp⟩
  have HKS:=Lib.hid hks
  have HK01:=Lib.hid (And.intro hk0 hk1)
  clear hks hk0 hk1 hp0 hp1
  have HM3:Hid ((chk S.E tc (d+1) 0 s >>= fun s1=>(chk S.E tb (d+1) 1 { s1 with loops:=n.text::s1.loops } >>= fun s'=>pure { s' with loops:=s'.loops.tail }))=r):=by
   have h1:=HM.out
   rw[HKS.out]at h1
   unfold chkW at h1
   simp only[chks_one]at h1
   exact h1
  clear HM
  have HM:=HM3
  clear HM3
  have hcall:Calls Tryz.prog 29 #[.pointer (some ⟨S.bp,0,none⟩),.int .i64 (p0:Int),.int .i64 ((d:Int)+1),.int .i64 (0:Int)] w6.drew (COut S ms w6.drew (chk S.E tc (d+1) 0 (s))) :=
   ih tc r0 p0 (d+1) 0 (B) (s) ms w6.drew (by omega) hT0 (by exact htA0) hms hB0 (by omega) (by have:=hq0.1;omega) (by have:=hq0.2;omega) (by omega) (by omega) (hKW.fr (Fr.refl [] _).drew)
  have hS:(SK S w.heap.size (w.heap.size+1+1) b12 g' 0 d p0 (.slice (some ⟨g',0,none⟩) ks.length sc)) w6.drew:=⟨nf.h4.rules.1 0,nf.h12.rules.1 0,(nf.hg.rules.1 0).trans hcur0,nf.h6.rules.1 0⟩
  go_wp2_with (fail)
  refine wp_region_held (S:=SK S w.heap.size (w.heap.size+1+1) b12 g' 0 d p0 (.slice (some ⟨g',0,none⟩) ks.length sc)) (by kernel_rfl) ?_
  refine tk 0 (.pointer (some ⟨S.bp,0,none⟩)) rfl hS (fun X hX=>?_) ?_
  ·obtain⟨hX1,hX2,hX3,hX4⟩:=hX;go_simp
  simp only[Act.put,acts]
  refine tk 1 (.slice (some ⟨g',0,none⟩) ks.length sc) rfl hS (fun X hX=>?_) ?_
  ·obtain⟨hX1,hX2,hX3,hX4⟩:=hX;go_simp
  simp only[Act.put,acts]
  refine tk 2 (.pointer (some ⟨g',0,none⟩)) rfl hS (fun X hX=>?_) ?_
  ·go_simp;try (intro h9;subst h9;simp at hl00)
  simp only[Act.put,acts]
  refine tk 3 (.int .i64 (p0:Int)) rfl hS (fun X hX=>?_) ?_
  ·obtain⟨hX1,hX2,hX3,hX4⟩:=hX;go_simp
  simp only[Act.put,acts]
  refine tk 4 (.int .i64 (d:Int)) rfl hS (fun X hX=>?_) ?_
  ·obtain⟨hX1,hX2,hX3,hX4⟩:=hX;go_simp
  simp only[Act.put,acts]
  refine tk 5 (.int .i64 ((d:Int)+1)) rfl hS (fun X hX=>?_) ?_
  ·go_simp;try (rw[Go.IntWalk.i64_in _ (by omega)])
  simp only[Act.put,acts]
  refine wpAnyH_all (rs:=[6]) (by kernel_rfl) (by simp) ?_
  intro i2 hi2
  obtain rfl:i2=6:=by simpa using hi2
  refine wpOp_step rfl (fun K0 hK0=>?_)
  rw[if_pos (by kernel_rfl)]
  go_simp
  refine hcall.mono ?_
  rintro e6 w7 ho
  rcases ho.bindr HM (hcW.trans (Ct.of_fr (Fr.refl [] _).drew)) with⟨ft,rfl,hout⟩|⟨s1,rfl,hK2,hC2,hok0,HM2⟩
  ·exact⟨rfl,hout⟩
  have hC3:Ct w6 w7:=(Ct.of_fr (Fr.refl [] _).drew).trans hC2
  replace nf:=nf.ct hC3
  refine hK0 _ _ ⟨⟨nf.h4.rules.1 0,nf.h12.rules.1 0,(nf.hg.rules.1 0).trans hcur0,nf.h6.rules.1 0⟩,wpAnyH_done (by kernel_rfl) ?_ _⟩
  replace hcW:=hcW.trans hC3
  clear hKW HM
  have hKW:=hK2
  have HM:=HM2
  clear hK2 HM2 hS hcall ho hC3 hC2
  have hbd1:=chk_bd S.E tc (d+1) 0 B s s1 (all_imp (fun _ _ h=>h.1) tc htA0) hB0 hok0
  have hs1l:s1.scopes.length≤d:=by rw[←hKW.sets.length,hml];exact hsc
  have hl1l:s1.loops.length≤d:=by rw[hbd1.2];exact hlp
  have HBD:=Lib.hid hbd1
  clear hbd1
  obtain⟨sv,lv,hbk0,hsr0,hlr0⟩:=hKW.ex
  have hbk:=hbk0.fr (Fr.refl [] w7).drew (by simp)
  have hsr:=ownsRow_frN hsr0 (Fr.refl [] w7).drew
  have hlr:=ownsRow_frN hlr0 (Fr.refl [] w7).drew
  have hrow9:=row_blk hlr
  have hKd:=hKW.fr (Fr.refl [] w7).drew
  obtain⟨i0,hi0,hz0,hz1,hz2⟩:=info_parts Tryz.infoStr
  obtain⟨cb,zb,sb,lb9⟩:=hbk0.rules
  obtain⟨c4,z4,s4,l4⟩:=nf.h4.rules
  obtain⟨c8,z8,s8,l8⟩:=nf.h8.rules
  have hbb9:=hKW.bw
  have HB1:Hid (s1.loops.length+1≤maxLen):=by show _≤_;simp[maxLen];omega
  have HB2:Hid ((s1.loops.length+1)*16≤140737488355328):=by show _≤_;omega
  have HB3:Hid (S.base≤(w7.drew.alloc (.cells #[.string ⟨n.text.toArray⟩] 9)).heap.size):=by show _≤_;simp;omega
  have hn4:∀k,lv.ownBlock=some k→∀c T,T≠9→Blk w7.drew k c T→False:=fun k e c T hT hB=>by
   obtain⟨_,c2,hB2⟩:=hrow9 k e
   have:=hB2.symm.trans hB
   simp at this
   exact hT this.2.symm
  have hbkN:∀k,lv.ownBlock=some k→k≠S.bp:=fun k e e2=>by subst e2;exact hn4 _ e _ _ (by decide) hbk
  have h4d:=nf.h4.fr (Fr.refl [] w7).drew (by simp)
  have h8d:=nf.h8.fr (Fr.refl [] w7).drew (by simp)
  have h9d:=nf.h9.fr (Fr.refl [] w7).drew (by simp)
  have h4N:∀k,lv.ownBlock=some k→k≠w.heap.size:=fun k e e2=>by subst e2;exact hn4 _ e _ _ (by decide) h4d
  go_wp2_with (fail)
  go_cut [] (fun X=>Hid (CK S { s1 with loops:=n.text::s1.loops } ms X∧Ct w7 X))
  case first =>
   skip
   have hS:(SR S w.heap.size (w.heap.size+1+1+1) (w.heap.size+1+1+1+1) n.text) w7.drew:=nf.sr.drew
   refine wp_region_held (S:=SR S w.heap.size (w.heap.size+1+1+1) (w.heap.size+1+1+1+1) n.text) (by kernel_rfl) ?_
   refine tk 0 (.pointer (some ⟨S.bp,0,none⟩)) rfl hS (fun X hX=>?_) ?_
   ·obtain⟨hX1,hX2,hX3⟩:=hX;go_simp
   simp only[Act.put,acts]
   refine tk 1 (.pointer (some ⟨S.bp,0,none⟩)) rfl hS (fun X hX=>?_) ?_
   ·obtain⟨hX1,hX2,hX3⟩:=hX;go_simp
   simp only[Act.put,acts]
   refine tk 2 (.pointer (some ⟨S.bp,0,none⟩)) rfl hS (fun X hX=>?_) ?_
   ·go_simp
   simp only[Act.put,acts]
   refine tk 3 (.pointer (some ⟨S.bp,6,none⟩)) rfl hS (fun X hX=>?_) ?_
   ·go_simp
   simp only[Act.put,acts]
   refine tk 5 (.pointer (some ⟨w.heap.size+1+1+1,3,none⟩)) rfl hS (fun X hX=>?_) ?_
   ·go_simp
   simp only[Act.put,acts]
   refine tk 6 (.string ⟨n.text.toArray⟩) rfl hS (fun X hX=>?_) ?_
   ·obtain⟨hX1,hX2,hX3⟩:=hX;go_simp
   simp only[Act.put,acts]
   refine wpAnyH_all (rs:=[4,7]) (by kernel_rfl) (by simp) ?_
   intro i2 hi2
   obtain rfl|rfl:i2=4∨i2=7:=by simpa using hi2
   ·refine wpOp_step rfl (fun K0 hK0=>?_)
    rw[if_pos (by kernel_rfl)]
    go_simp
    refine hK0 _ _ ⟨hS,?_⟩
    refine wpAnyH_all (rs:=[7]) (by kernel_rfl) (by simp) ?_
    intro i2 hi2
    obtain rfl:i2=7:=by simpa using hi2
    refine wpOp_step rfl (fun K0 hK0=>?_)
    rw[if_pos (by kernel_rfl)]
    go_simp
    refine hK0 _ _ ⟨hS.fr ((Fr.refl [] _).alloc _),?_⟩
    refine wpAnyH_all (rs:=[8]) (by kernel_rfl) (by simp) ?_
    intro i2 hi2
    obtain rfl:i2=8:=by simpa using hi2
    refine wpOp_step rfl (fun K0 hK0=>?_)
    rw[if_pos (by kernel_rfl)]
    refine wp_append_lies _ (.tmp 165) (.tmp 168) 67 rfl S.base 9 i0 (.string ⟨#[]⟩) 1 16 Tryz.underlying67 hi0 hz0 hz1 hz2 rfl (by decide) lv s1.loops.length (svals s1.loops.reverse) rfl (hlr.alloc _) ⟨w7.heap.size,0,none⟩ 1 1 [.string ⟨n.text.toArray⟩] rfl rfl (cell_one_new _ _ _) (by simp[Value.oneCell']) Nat.one_pos HB1.out HB2.out HB3.out _ rfl ?_
    intro g2 cap2 w8 hown8 hg8 hat8 hlt8
    obtain⟨qc,qz,qset,qb⟩:=((hbk.alloc _).grown hg8 (fun e=>hbkN _ e rfl)).rules
    have hS8:(SR S w.heap.size (w.heap.size+1+1+1) (w.heap.size+1+1+1+1) n.text) w8:=⟨((h9d.alloc _).grown hg8 (fun e=>hn4 _ e _ _ (by decide) h9d)).rules.1 0,((h4d.alloc _).grown hg8 (fun e=>hn4 _ e _ _ (by decide) h4d)).rules.1 0,((h8d.alloc _).grown hg8 (fun e=>hn4 _ e _ _ (by decide) h8d)).rules.1 3⟩
    obtain⟨q1,q2⟩:=CK.pushLoop hKd hbk hsr hlr _ hown8 hg8
    have hCq:=(Ct.of_fr (Fr.refl [] w7).drew).trans q2
    refine hK0 _ _ ⟨hS8,?_⟩
    clear hS
    have hS:=hS8
    refine tk 9 (.pointer (some ⟨S.bp,0,none⟩)) rfl hS (fun X hX=>?_) ?_
    ·go_simp
    simp only[Act.put,acts]
    refine tk 10 (.pointer (some ⟨S.bp,6,none⟩)) rfl hS (fun X hX=>?_) ?_
    ·go_simp
    simp only[Act.put,acts]
    refine wpAnyH_all (rs:=[11]) (by kernel_rfl) (by simp) ?_
    intro i2 hi2
    obtain rfl:i2=11:=by simpa using hi2
    refine wpOp_step rfl (fun K0 hK0=>?_)
    rw[if_pos (by kernel_rfl)]
    go_simp
    refine hK0 _ _ ⟨(nf.ct hCq).sr,wpAnyH_done (by kernel_rfl) ?_ _⟩
    go_wp2
    go_meet
    case rel=>exact⟨q1,hCq⟩
   ·refine wpOp_step rfl (fun K0 hK0=>?_)
    rw[if_pos (by kernel_rfl)]
    go_simp
    refine hK0 _ _ ⟨hS.fr ((Fr.refl [] _).alloc _),?_⟩
    refine wpAnyH_all (rs:=[4]) (by kernel_rfl) (by simp) ?_
    intro i2 hi2
    obtain rfl:i2=4:=by simpa using hi2
    refine wpOp_step rfl (fun K0 hK0=>?_)
    rw[if_pos (by kernel_rfl)]
    go_simp
    refine hK0 _ _ ⟨hS.fr ((Fr.refl [] _).alloc _),?_⟩
    refine wpAnyH_all (rs:=[8]) (by kernel_rfl) (by simp) ?_
    intro i2 hi2
    obtain rfl:i2=8:=by simpa using hi2
    refine wpOp_step rfl (fun K0 hK0=>?_)
    rw[if_pos (by kernel_rfl)]
    refine wp_append_lies _ (.tmp 165) (.tmp 168) 67 rfl S.base 9 i0 (.string ⟨#[]⟩) 1 16 Tryz.underlying67 hi0 hz0 hz1 hz2 rfl (by decide) lv s1.loops.length (svals s1.loops.reverse) rfl (hlr.alloc _) ⟨w7.heap.size,0,none⟩ 1 1 [.string ⟨n.text.toArray⟩] rfl rfl (cell_one_new _ _ _) (by simp[Value.oneCell']) Nat.one_pos HB1.out HB2.out HB3.out _ rfl ?_
    intro g2 cap2 w8 hown8 hg8 hat8 hlt8
    obtain⟨qc,qz,qset,qb⟩:=((hbk.alloc _).grown hg8 (fun e=>hbkN _ e rfl)).rules
    have hS8:(SR S w.heap.size (w.heap.size+1+1+1) (w.heap.size+1+1+1+1) n.text) w8:=⟨((h9d.alloc _).grown hg8 (fun e=>hn4 _ e _ _ (by decide) h9d)).rules.1 0,((h4d.alloc _).grown hg8 (fun e=>hn4 _ e _ _ (by decide) h4d)).rules.1 0,((h8d.alloc _).grown hg8 (fun e=>hn4 _ e _ _ (by decide) h8d)).rules.1 3⟩
    obtain⟨q1,q2⟩:=CK.pushLoop hKd hbk hsr hlr _ hown8 hg8
    have hCq:=(Ct.of_fr (Fr.refl [] w7).drew).trans q2
    refine hK0 _ _ ⟨hS8,?_⟩
    clear hS
    have hS:=hS8
    refine tk 9 (.pointer (some ⟨S.bp,0,none⟩)) rfl hS (fun X hX=>?_) ?_
    ·go_simp
    simp only[Act.put,acts]
    refine tk 10 (.pointer (some ⟨S.bp,6,none⟩)) rfl hS (fun X hX=>?_) ?_
    ·go_simp
    simp only[Act.put,acts]
    refine wpAnyH_all (rs:=[11]) (by kernel_rfl) (by simp) ?_
    intro i2 hi2
    obtain rfl:i2=11:=by simpa using hi2
    refine wpOp_step rfl (fun K0 hK0=>?_)
    rw[if_pos (by kernel_rfl)]
    go_simp
    refine hK0 _ _ ⟨(nf.ct hCq).sr,wpAnyH_done (by kernel_rfl) ?_ _⟩
    go_wp2
    go_meet
    case rel=>exact⟨q1,hCq⟩
  case' rest=>skip
  obtain⟨hK9,hC9⟩:=hcut.out
  clear hcut
  replace nf:=nf.ct hC9
  replace hcW:=hcW.trans hC9
  clear hKW hC9
  have hKW:=hK9
  clear hK9
  have hB1:Bd { s1 with loops:=n.text::s1.loops } (B+tc.size):=HBD.out.1.loops _
  have hq1:s1.scopes.length≤d+1∧(n.text::s1.loops).length≤d+1:=⟨by omega,by simp;omega⟩
  have hcall:Calls Tryz.prog 29 #[.pointer (some ⟨S.bp,0,none⟩),.int .i64 (p1:Int),.int .i64 ((d:Int)+1),.int .i64 (1:Int)] wc.drew (COut S ms wc.drew (chk S.E tb (d+1) 1 ({ s1 with loops:=n.text::s1.loops }))) :=
   ih tb r1 p1 (d+1) 1 (B+tc.size) ({ s1 with loops:=n.text::s1.loops }) ms wc.drew (by omega) hT1 (by exact htA1) hms hB1 (by omega) (by have:=hq1.1;omega) (by have:=hq1.2;omega) (by omega) (by omega) (hKW.fr (Fr.refl [] _).drew)
  have hS:(SK S w.heap.size (w.heap.size+1+1) b12 g' 1 d p1 (.slice (some ⟨g',0,none⟩) ks.length sc)) wc.drew:=⟨nf.h4.rules.1 0,nf.h12.rules.1 0,(nf.hg.rules.1 1).trans hcur1,nf.h6.rules.1 0⟩
  go_wp2_with (fail)
  refine wp_region_held (S:=SK S w.heap.size (w.heap.size+1+1) b12 g' 1 d p1 (.slice (some ⟨g',0,none⟩) ks.length sc)) (by kernel_rfl) ?_
  refine tk 0 (.pointer (some ⟨S.bp,0,none⟩)) rfl hS (fun X hX=>?_) ?_
  ·obtain⟨hX1,hX2,hX3,hX4⟩:=hX;go_simp
  simp only[Act.put,acts]
  refine tk 1 (.slice (some ⟨g',0,none⟩) ks.length sc) rfl hS (fun X hX=>?_) ?_
  ·obtain⟨hX1,hX2,hX3,hX4⟩:=hX;go_simp
  simp only[Act.put,acts]
  refine tk 2 (.pointer (some ⟨g',1,none⟩)) rfl hS (fun X hX=>?_) ?_
  ·go_simp;try (intro h9;subst h9;simp at hl00)
  simp only[Act.put,acts]
  refine tk 3 (.int .i64 (p1:Int)) rfl hS (fun X hX=>?_) ?_
  ·obtain⟨hX1,hX2,hX3,hX4⟩:=hX;go_simp
  simp only[Act.put,acts]
  refine tk 4 (.int .i64 (d:Int)) rfl hS (fun X hX=>?_) ?_
  ·obtain⟨hX1,hX2,hX3,hX4⟩:=hX;go_simp
  simp only[Act.put,acts]
  refine tk 5 (.int .i64 ((d:Int)+1)) rfl hS (fun X hX=>?_) ?_
  ·go_simp;try (rw[Go.IntWalk.i64_in _ (by omega)])
  simp only[Act.put,acts]
  refine wpAnyH_all (rs:=[6]) (by kernel_rfl) (by simp) ?_
  intro i2 hi2
  obtain rfl:i2=6:=by simpa using hi2
  refine wpOp_step rfl (fun K0 hK0=>?_)
  rw[if_pos (by kernel_rfl)]
  go_simp
  refine hcall.mono ?_
  rintro e6 w9 ho
  rcases ho.bindr HM (hcW.trans (Ct.of_fr (Fr.refl [] _).drew)) with⟨ft,rfl,hout⟩|⟨s3,rfl,hK2,hC2,hok1,HM2⟩
  ·exact⟨rfl,hout⟩
  have hC3:Ct wc w9:=(Ct.of_fr (Fr.refl [] _).drew).trans hC2
  replace nf:=nf.ct hC3
  refine hK0 _ _ ⟨⟨nf.h4.rules.1 0,nf.h12.rules.1 0,(nf.hg.rules.1 1).trans hcur1,nf.h6.rules.1 0⟩,wpAnyH_done (by kernel_rfl) ?_ _⟩
  replace hcW:=hcW.trans hC3
  clear hKW HM
  have hKW:=hK2
  have HM:=HM2
  clear hK2 HM2 hS hcall ho hC3 hC2
  have hbd3:=chk_bd S.E tb (d+1) 1 (B+tc.size) { s1 with loops:=n.text::s1.loops } s3 (all_imp (fun _ _ h=>h.1) tb htA1) hB1 hok1
  obtain⟨sv3,lv3,b1,b2,b3⟩:=hKW.ex
  obtain⟨m,hm⟩:∃m,s3.loops.length=m+1:=⟨s1.loops.length,by rw[hbd3.2];rfl⟩
  have hm3:m≤300:=by rw[hbd3.2]at hm;simp at hm;omega
  rw[hm]at b3
  obtain⟨g3,cap3,rfl⟩:=ownsRow_succ b3
  have hnm:(m:Int)≤300:=by omega
  have hcap3:m+1≤cap3:=(ownsRow_cap b3).1
  have hcap4:(cap3:Int)≤9223372036854775807:=by have:=(ownsRow_cap b3).2;unfold maxLen at this;omega
  obtain⟨yc,yz,yset,yb⟩:=b1.rules
  obtain⟨c4,z4,s4,l4⟩:=nf.h4.rules
  have B1:=Lib.hid b1;have B2:=Lib.hid b2;have B3:=Lib.hid b3;have H9:=Lib.hid hKW;have HB3:=Lib.hid hbd3;have HM9:=Lib.hid HM;have HC9:=Lib.hid hcW
  clear b1 b2 b3 hKW hbd3 HM hcW hm hB1 hq1 hB0 hq0 hcur0 hcur1 hT0 hT1 htA0 htA1 hok0 hok1 hml hA2 nf
  go_wp2
  go_region
  all_goals go_wp2
  all_goals go_end0
  all_goals
   obtain⟨hq,cq⟩:=H9.out.popLoop HB3.out.2 B1.out B2.out B3.out
   exact .inr ⟨_,HM9.out.symm,rfl,hq.fr (Fr.refl _ _).drew,(HC9.out.trans cq).trans (Ct.of_fr (Fr.refl _ _).drew)⟩
end Go.Proofs.YtoomapkcoibmhaaGreatDoor
end
