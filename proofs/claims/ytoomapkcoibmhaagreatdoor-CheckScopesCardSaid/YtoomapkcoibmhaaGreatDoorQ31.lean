/- A part of the proof. -/
import Derived.Test.YtoomapkcoibmhaaGreatDoorQ28
set_option maxRecDepth 100000
set_option maxHeartbeats 12800000
set_option linter.all false
section
open Go Go.Proofs Go.RowKit Go.Shelf Go.Maps Ck
namespace Go.Proofs.YtoomapkcoibmhaaGreatDoor
attribute [local go_sem] Oper.semAt_some
theorem node13_any {S:CSt} {N:Nat} (ih:NAny S N) (n:Ck.Node) (ks:List Tree) (rest:List Ck.Node) (i d k B:Nat) (s:CS) (ms:List Nat) (w:World) (hs:(Tree.mk n ks).size≤N+1) (hT:S.R.drop i=(Tree.mk n ks).row++rest) (hA:(Tree.mk n ks).all Shp) (hms:ms≠[]) (hb:Bd s B) (hB:B+(Tree.mk n ks).size≤1099511627776) (hsc:s.scopes.length≤d) (hlp:s.loops.length≤d) (hd:d≤257) (hkk:k≤1099511627776) (hK:CK S s ms w) (hk13:n.kind=13∨n.kind=14)
  :
  Calls Tryz.prog 29 #[.pointer (some ⟨S.bp,0,none⟩),.int .i64 (i:Int),.int .i64 (d:Int),.int .i64 (k:Int)] w (COut S ms w (chk S.E (Tree.mk n ks) d k s)):=by
 rcases hk13 with hk13|hk13
 all_goals
  have t2:=kb hk13 2;have t3:=kb hk13 3;have t4:=kb hk13 4;have t5:=kb hk13 5;have t6:=kb hk13 6;have t10:=kb hk13 10;have t11:=kb hk13 11;have t12:=kb hk13 12;have t25:=kb hk13 25;have t7:=kb hk13 7;have t23:=kb hk13 23;have t13:=kb hk13 13;have t14:=kb hk13 14
  simp only[Int.reduceBEq]at t2 t3 t4 t5 t6 t10 t11 t12 t25 t7 t23 t13 t14
  clear hk13
  obtain⟨r,hr⟩:∃r,Hid (chk S.E (Tree.mk n ks) d k s=r):=⟨_,rfl⟩
  rw[hr.out]
  have HM:Hid ((need (decide (256<d)) 71 n.at' >>= fun _=>(need (s.loops.isEmpty||(n.text != [] && !s.loops.contains n.text)) 82 n.at' >>= fun _=>chks S.E ks (d+1) 0 s))=r):=by
   have h1:=hr.out
   unfold chk at h1
   simp only[t2,t3,t4,t5,t6,t10,t11,t12,t25,t7,t23,t13,t14,Bool.or_false,Bool.false_or,Bool.or_true,Bool.true_or,Bool.or_self,Bool.false_eq_true,if_true,if_false,reduceIte]at h1
   exact h1
  clear hr
  obtain⟨hrow,hnode⟩:=row_tail hT
  have hszT:(Tree.mk n ks).size=sizes ks+1:=by simp[Tree.size]
  have hkl:ks.length≤sizes ks:=by rw[←rows_sizes];exact rowsGe ks
  have hil:(i:Int)<S.R.length:=by have:=(List.getElem?_eq_some_iff.1 hnode).1;omega
  have hx:n.text.length≤140737488351232:=(hK.ok _ (List.mem_of_getElem? hnode)).text
  obtain⟨sv,lv,hb0,_,_⟩:=hK.ex
  obtain⟨rc,rz,rset,rb⟩:=hb0.rules
  have hlim:=hK.lim;have hgl0:=hK.rat.gl
  obtain⟨rc0,hgl,rbk,n0,n1,n2,n3,n4,n5⟩:=nrd hK hnode
  obtain⟨W5,hW5⟩:∃X,X=nw S n i d ks w:=⟨_,rfl⟩
  obtain⟨hF5,k4,k5,k6,k8,k9,k10⟩:=hW5 ▸ npre S n i d ks w
  unfold nw at hW5
  have hK5:=hK.fr hF5
  obtain⟨sv5,lv5,hb5,_,_⟩:=hK5.ex
  have hk:=kids_any S.bp S.R rest i S.g S.c n ks hT hlim W5 hK5.rat _ hb5 rfl
  have hcw:=nfault_any (S:=S) (ms:=ms) (w:=w) (decide (256<(d:Int))) 71 (ks.length:Int) (w.heap.size+1+1+1) n k8 hK5.low HM (by simp;omega)
  have HK5:=Lib.hid hK5;have HT:=Lib.hid hT;have HR:=Lib.hid hrow;have HN:=Lib.hid hnode;have HA:=Lib.hid hA;have HF5:=Lib.hid hF5;have HKx:=Lib.hid hK;have HB:=Lib.hid hb
  clear hK5 hT hrow hnode hA hF5 hK hb hb5 HM hb0
  have hdi:(d:Int)≤300:=by omega
  have hki:(k:Int)≤1099511627776:=by omega
  go_enter Tryz.func29,Tryz.ntmps29
  go_wp2_with (fail)
  go_region
  go_wp2_with (fail)
  rw[←hW5]
  clear hW5 rc rz rset rb rc0 hgl0 hgl rbk n0 n1 n2 n3 n4 n5
  go_at_call 50
  refine hcw.mono ?_
  clear hcw
  rintro e1 w1 (⟨ft,rfl,hout⟩|⟨rfl,rfl,hq1,HM⟩)
  ·exact⟨rfl,hout⟩
  have hd2:d≤256:=by simpa using hq1
  obtain⟨c4,z4,s4,l4⟩:=k4.rules
  obtain⟨c5,z5,s5,l5⟩:=k5.rules
  go_wp2_with (fail)
  go_at_call 31
  refine hk.mono ?_
  clear hk c4 z4 s4 l4 c5 z5 s5 l5
  rintro e2 w2 ⟨v,rfl,hown,hf2⟩
  obtain⟨g',cur,sa,sc,rfl,hgb,hcur,hsa,hcap⟩:=kids_blk hown (k5.fr hf2 (by simp))
  obtain⟨W,hW⟩:∃X,X=w2.alloc (.cells #[.slice sa ks.length sc] 36):=⟨_,rfl⟩
  have hfW:Fr [] w2 W:=by rw[hW];exact(Fr.refl _ _).alloc _
  have hf5W:Fr [] W5 W:=hf2.trans hfW
  have nf:NF S n i d ks w.heap.size (w.heap.size+1) (w.heap.size+1+1) (w.heap.size+1+1+1) (w.heap.size+1+1+1+1) (w.heap.size+1+1+1+1+1) w2.heap.size g' sc sa cur W :=
   ⟨k4.fr hf5W (by simp),k5.fr hf5W (by simp),k6.fr hf5W (by simp),k8.fr hf5W (by simp),k9.fr hf5W (by simp),k10.fr hf5W (by simp),by rw[hW];exact Blk.new _ _ _,hgb.fr hfW (by simp),fun j q hj=>hcur j _ (by simp[ivals,hj]),fun hne=>hsa (List.length_pos_iff.2 hne),hcap⟩
  have hKW:=HK5.out.fr hf5W
  have hcW:Ct w W:=Ct.of_fr (HF5.out.trans hf5W)
  clear hfW hf5W hgb hcur hsa hown hf2 k4 k5 k6 k8 k9 k10 HK5 HF5
  go_upto_region 7 with(fail)
  rw[←hW]
  clear hW
  generalize w2.heap.size=b12 at *
  obtain⟨c8,z8,s8,l8⟩:=nf.h8.rules
  obtain⟨sv,lv,hbk,_,hlr⟩:=hKW.ex
  obtain⟨la,lc,rfl⟩:=owns_form hlr
  have hll:(s.loops.length:Int)≤300:=by omega
  have hcon:=contains_any W.drew (.slice la s.loops.length lc) s.loops.reverse n.text (StrSlice.fr (S:=[]) (owns_str hlr) (Fr.refl [] _).drew (fun _ _ _ _=>List.not_mem_nil)) (by rw[List.length_reverse];omega)
  rw[contains_rev]at hcon
  obtain⟨lb,hlb⟩:∃lb:Bool,s.loops.contains n.text=lb:=⟨_,rfl⟩
  rw[hlb]at hcon
  have HLB:=Lib.hid hlb
  clear hlb
  go_wp2_with (fail)
  by_cases hl0:s.loops=[]
  ·skip
   have hS:(SL S w.heap.size (w.heap.size+1+1+1) (w.heap.size+1+1+1+1) n.text (.slice la s.loops.length lc)) W.drew:=⟨nf.sr.drew,hbk.rules.1 6⟩
   refine wp_region_held (S:=SL S w.heap.size (w.heap.size+1+1+1) (w.heap.size+1+1+1+1) n.text (.slice la s.loops.length lc)) (by kernel_rfl) ?_
   refine tk 0 (.func (.func 50) #[] #[.pointer (some ⟨w.heap.size+1+1+1,0,none⟩)]) rfl hS (fun X hX=>?_) ?_
   ·obtain⟨⟨hX1,hX2,hX3⟩,hX4⟩:=hX;go_simp
   simp only[Act.put,acts]
   refine tk 1 (.pointer (some ⟨S.bp,0,none⟩)) rfl hS (fun X hX=>?_) ?_
   ·obtain⟨⟨hX1,hX2,hX3⟩,hX4⟩:=hX;go_simp
   simp only[Act.put,acts]
   refine tk 2 (.pointer (some ⟨S.bp,0,none⟩)) rfl hS (fun X hX=>?_) ?_
   ·go_simp
   simp only[Act.put,acts]
   refine tk 3 (.pointer (some ⟨S.bp,6,none⟩)) rfl hS (fun X hX=>?_) ?_
   ·go_simp
   simp only[Act.put,acts]
   refine tk 4 (.slice la s.loops.length lc) rfl hS (fun X hX=>?_) ?_
   ·obtain⟨⟨hX1,hX2,hX3⟩,hX4⟩:=hX;go_simp
   simp only[Act.put,acts]
   refine tk 5 (.int .i64 (s.loops.length:Int)) rfl hS (fun X hX=>?_) ?_
   ·go_simp
   simp only[Act.put,acts]
   refine tk 6 (.bool true) rfl hS (fun X hX=>?_) ?_
   ·go_simp;try simp[hl0]
   simp only[Act.put,acts]
   refine tk 7 (.bool true) rfl hS (fun X hX=>?_) ?_
   ·go_simp
   simp only[Act.put,acts]
   refine tks 8 rfl hS ?_
   simp only[Act.put,acts]
   refine tks 9 rfl hS ?_
   simp only[Act.put,acts]
   refine tks 10 rfl hS ?_
   simp only[Act.put,acts]
   refine tks 11 rfl hS ?_
   simp only[Act.put,acts]
   refine tks 12 rfl hS ?_
   simp only[Act.put,acts]
   refine tks 13 rfl hS ?_
   simp only[Act.put,acts]
   refine tks 14 rfl hS ?_
   simp only[Act.put,acts]
   refine tks 15 rfl hS ?_
   simp only[Act.put,acts]
   refine tks 16 rfl hS ?_
   simp only[Act.put,acts]
   refine tks 17 rfl hS ?_
   simp only[Act.put,acts]
   refine tks 18 rfl hS ?_
   simp only[Act.put,acts]
   refine tks 19 rfl hS ?_
   simp only[Act.put,acts]
   refine tks 20 rfl hS ?_
   simp only[Act.put,acts]
   refine tk 21 (.bool true) rfl hS (fun X hX=>?_) ?_
   ·go_simp
   simp only[Act.put,acts]
   have hflt:=nfault_any (S:=S) (ms:=ms) (w:=w) (true) 82 (ks.length:Int) (w.heap.size+1+1+1) n (nf.h8.fr (Fr.refl [] _).drew (by simp)) (hKW.fr (Fr.refl [] _).drew).low HM (by simp[List.isEmpty_iff.2 hl0])
   refine wpAnyH_all (rs:=[22]) (by kernel_rfl) (by simp) ?_
   intro i2 hi2
   obtain rfl:i2=22:=by simpa using hi2
   refine wpOp_step rfl (fun K0 hK0=>?_)
   rw[if_pos (by kernel_rfl)]
   go_simp
   refine hflt.mono ?_
   rintro e4 V (⟨ft,rfl,hout⟩|⟨rfl,hVe,hq2,HM⟩)
   ·exact⟨rfl,hout⟩
   have hfV:Fr [] W V:=by rw[←hVe];exact(Fr.refl [] _).drew
   replace nf:=nf.ct (Ct.of_fr hfV)
   replace hKW:=hKW.fr hfV
   replace hcW:=hcW.trans (Ct.of_fr hfV)
   refine hK0 _ _ ⟨by rw[←hVe];exact hS,wpAnyH_done (by kernel_rfl) ?_ _⟩
   clear hVe hfV
   have hea:=nf.each ih rest B s ms (by omega) HR.out HA.out.2 hms HB.out (by omega) (by omega) (by omega) hKW (by omega)
   obtain⟨c10,z10,s10,l10⟩:=nf.h10.rules
   obtain⟨c12,z12,s12,l12⟩:=nf.h12.rules
   go_wp2_with (fail)
   go_at_call 51
   refine hea.mono ?_
   rintro e5 w5 ho
   rcases ho.last HM hcW with⟨ft,h1,rfl,h3⟩|⟨s2,h1,rfl,K2,C2⟩
   ·exact⟨rfl,.inl ⟨ft,h1,rfl,h3⟩⟩
   ·go_wp2
    go_end0
    exact .inr ⟨s2,h1,rfl,K2,C2⟩
  have hle:((s.loops.length:Int)==0)=false:=by simp[hl0]
  have hcq:∀q,Calls Tryz.prog 61 #[.slice la s.loops.length lc,.string ⟨n.text.toArray⟩] (W.drewN q) fun e w''=>e=.returned (.bool lb)∧∃m,w''=W.drewN m:=fun q=>Calls.quiet_of_same ((contains_any (W.drewN q) (.slice la s.loops.length lc) s.loops.reverse n.text (StrSlice.fr (S:=[]) (owns_str hlr) ((Fr.refl [] _).drewN q) (fun _ _ _ _=>List.not_mem_nil)) (by rw[List.length_reverse];omega)).mono (fun e w' h=>⟨by rw[h.1,contains_rev,HLB.out],h.2.symm⟩))
  have hfq:∀q,Calls Tryz.prog 50 #[.bool false,.int .i64 82,.pointer (some ⟨w.heap.size+1+1+1,0,none⟩)] (W.drewN q) fun e w''=>e=.returned (.tuple #[])∧∃m,w''=W.drewN m:=fun q=>Calls.quiet_of_same ((cwrong_any false 82 (w.heap.size+1+1+1) { n with kids:=(ks.length:Int) } (W.drewN q) (nf.h8.fr ((Fr.refl [] _).drewN q) List.not_mem_nil)).mono (fun e w' h=>by
   rcases h with⟨h,_⟩|⟨_,h1,h2⟩
   ·cases h
   ·exact⟨h1,h2.symm⟩))
  have hie:s.loops.isEmpty=false:=by simpa using hl0
  by_cases hx0:n.text=[]
  ·skip
   obtain⟨c4,z4,s4,l4⟩:=nf.h4.rules
   obtain⟨c9,z9,s9,l9⟩:=nf.h9.rules
   obtain⟨cb,zb,sb,lb0⟩:=hbk.rules
   have HM2:Hid (chks S.E ks (d+1) 0 s=r):=by
    have h1:=HM.out
    have e1:(s.loops.isEmpty||(n.text != [] && !s.loops.contains n.text))=false:=by simp[hl0,hx0]
    rw[e1]at h1
    exact h1
   clear HM
   have HM:=HM2
   have hea0:=fun q=>nf.ct (Ct.of_fr ((Fr.refl [] W).drewN q)) |>.each ih rest B s ms (by omega) HR.out HA.out.2 hms HB.out (by omega) (by omega) (by omega) (hKW.fr ((Fr.refl [] W).drewN q)) (by omega)
   obtain⟨c10,z10,s10,l10⟩:=nf.h10.rules
   obtain⟨c12,z12,s12,l12⟩:=nf.h12.rules
   go_wp2_with (first|(go_quiet (first|(go_at_call 61;exact hcq _)|(go_at_call 50;exact hfq _))))
   go_at_call 51
   refine(hea0 _).mono ?_
   rintro e5 w5 ho
   rcases ho.last HM (hcW.trans (Ct.of_fr ((Fr.refl [] W).drewN _))) with⟨ft,h1,rfl,h3⟩|⟨s2,h1,rfl,K2,C2⟩
   ·exact⟨rfl,.inl ⟨ft,h1,rfl,h3⟩⟩
   ·go_wp2
    go_end0
    exact .inr ⟨s2,h1,rfl,K2,C2⟩
  have hxe:(n.text != [])=true:=by simpa using hx0
  have hS:(SL S w.heap.size (w.heap.size+1+1+1) (w.heap.size+1+1+1+1) n.text (.slice la s.loops.length lc)) W.drew:=⟨nf.sr.drew,hbk.rules.1 6⟩
  refine wp_region_held (S:=SL S w.heap.size (w.heap.size+1+1+1) (w.heap.size+1+1+1+1) n.text (.slice la s.loops.length lc)) (by kernel_rfl) ?_
  refine tk 0 (.func (.func 50) #[] #[.pointer (some ⟨w.heap.size+1+1+1,0,none⟩)]) rfl hS (fun X hX=>?_) ?_
  ·obtain⟨⟨hX1,hX2,hX3⟩,hX4⟩:=hX;go_simp
  simp only[Act.put,acts]
  refine tk 1 (.pointer (some ⟨S.bp,0,none⟩)) rfl hS (fun X hX=>?_) ?_
  ·obtain⟨⟨hX1,hX2,hX3⟩,hX4⟩:=hX;go_simp
  simp only[Act.put,acts]
  refine tk 2 (.pointer (some ⟨S.bp,0,none⟩)) rfl hS (fun X hX=>?_) ?_
  ·go_simp
  simp only[Act.put,acts]
  refine tk 3 (.pointer (some ⟨S.bp,6,none⟩)) rfl hS (fun X hX=>?_) ?_
  ·go_simp
  simp only[Act.put,acts]
  refine tk 4 (.slice la s.loops.length lc) rfl hS (fun X hX=>?_) ?_
  ·obtain⟨⟨hX1,hX2,hX3⟩,hX4⟩:=hX;go_simp
  simp only[Act.put,acts]
  refine tk 5 (.int .i64 (s.loops.length:Int)) rfl hS (fun X hX=>?_) ?_
  ·go_simp
  simp only[Act.put,acts]
  refine tk 6 (.bool false) rfl hS (fun X hX=>?_) ?_
  ·go_simp;try simp[hl0]
  simp only[Act.put,acts]
  refine tk 7 (.bool false) rfl hS (fun X hX=>?_) ?_
  ·go_simp
  simp only[Act.put,acts]
  refine tk 8 (.pointer (some ⟨w.heap.size+1+1+1,3,none⟩)) rfl hS (fun X hX=>?_) ?_
  ·go_simp
  simp only[Act.put,acts]
  refine tk 9 (.string ⟨n.text.toArray⟩) rfl hS (fun X hX=>?_) ?_
  ·obtain⟨⟨hX1,hX2,hX3⟩,hX4⟩:=hX;go_simp
  simp only[Act.put,acts]
  refine tk 10 (.bool true) rfl hS (fun X hX=>?_) ?_
  ·go_simp;try simp[hx0]
  simp only[Act.put,acts]
  refine tk 11 (.bool true) rfl hS (fun X hX=>?_) ?_
  ·go_simp
  simp only[Act.put,acts]
  refine tk 12 (.pointer (some ⟨S.bp,0,none⟩)) rfl hS (fun X hX=>?_) ?_
  ·obtain⟨⟨hX1,hX2,hX3⟩,hX4⟩:=hX;go_simp
  simp only[Act.put,acts]
  refine tk 13 (.pointer (some ⟨S.bp,0,none⟩)) rfl hS (fun X hX=>?_) ?_
  ·go_simp
  simp only[Act.put,acts]
  refine tk 14 (.pointer (some ⟨S.bp,6,none⟩)) rfl hS (fun X hX=>?_) ?_
  ·go_simp
  simp only[Act.put,acts]
  refine tk 15 (.slice la s.loops.length lc) rfl hS (fun X hX=>?_) ?_
  ·obtain⟨⟨hX1,hX2,hX3⟩,hX4⟩:=hX;go_simp
  simp only[Act.put,acts]
  refine tk 16 (.pointer (some ⟨w.heap.size+1+1+1,3,none⟩)) rfl hS (fun X hX=>?_) ?_
  ·go_simp
  simp only[Act.put,acts]
  refine tk 17 (.string ⟨n.text.toArray⟩) rfl hS (fun X hX=>?_) ?_
  ·obtain⟨⟨hX1,hX2,hX3⟩,hX4⟩:=hX;go_simp
  simp only[Act.put,acts]
  refine wpAnyH_all (rs:=[18]) (by kernel_rfl) (by simp) ?_
  intro i2 hi2
  obtain rfl:i2=18:=by simpa using hi2
  refine wpOp_step rfl (fun K0 hK0=>?_)
  rw[if_pos (by kernel_rfl)]
  go_simp
  refine hcon.mono ?_
  rintro e3 w3 ⟨rfl,rfl⟩
  refine hK0 _ _ ⟨hS,?_⟩
  refine tk 19 (.bool (!lb)) rfl hS (fun X hX=>?_) ?_
  ·go_simp
  simp only[Act.put,acts]
  refine tk 20 (.bool (!lb)) rfl hS (fun X hX=>?_) ?_
  ·go_simp
  simp only[Act.put,acts]
  refine tk 21 (.bool (!lb)) rfl hS (fun X hX=>?_) ?_
  ·go_simp
  simp only[Act.put,acts]
  have hflt:=nfault_any (S:=S) (ms:=ms) (w:=w) (!lb) 82 (ks.length:Int) (w.heap.size+1+1+1) n (nf.h8.fr (Fr.refl [] _).drew (by simp)) (hKW.fr (Fr.refl [] _).drew).low HM (by rw[HLB.out,hie,hxe];rfl)
  refine wpAnyH_all (rs:=[22]) (by kernel_rfl) (by simp) ?_
  intro i2 hi2
  obtain rfl:i2=22:=by simpa using hi2
  refine wpOp_step rfl (fun K0 hK0=>?_)
  rw[if_pos (by kernel_rfl)]
  go_simp
  refine hflt.mono ?_
  rintro e4 V (⟨ft,rfl,hout⟩|⟨rfl,hVe,hq2,HM⟩)
  ·exact⟨rfl,hout⟩
  have hfV:Fr [] W V:=by rw[←hVe];exact(Fr.refl [] _).drew
  replace nf:=nf.ct (Ct.of_fr hfV)
  replace hKW:=hKW.fr hfV
  replace hcW:=hcW.trans (Ct.of_fr hfV)
  refine hK0 _ _ ⟨by rw[←hVe];exact hS,wpAnyH_done (by kernel_rfl) ?_ _⟩
  clear hVe hfV
  have hea:=nf.each ih rest B s ms (by omega) HR.out HA.out.2 hms HB.out (by omega) (by omega) (by omega) hKW (by omega)
  obtain⟨c10,z10,s10,l10⟩:=nf.h10.rules
  obtain⟨c12,z12,s12,l12⟩:=nf.h12.rules
  go_wp2_with (fail)
  go_at_call 51
  refine hea.mono ?_
  rintro e5 w5 ho
  rcases ho.last HM hcW with⟨ft,h1,rfl,h3⟩|⟨s2,h1,rfl,K2,C2⟩
  ·exact⟨rfl,.inl ⟨ft,h1,rfl,h3⟩⟩
  ·go_wp2
   go_end0
   exact .inr ⟨s2,h1,rfl,K2,C2⟩
end Go.Proofs.YtoomapkcoibmhaaGreatDoor
end
