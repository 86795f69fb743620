/- A part of the proof. -/
import Derived.Test.YtoomapkcoibmhaaGreatDoorQ31
set_option maxRecDepth 100000
set_option maxHeartbeats 12800000
set_option linter.all false
section
open Go Go.Proofs Go.RowKit Go.Shelf Go.Maps Ck
namespace Go.Proofs.YtoomapkcoibmhaaGreatDoor
attribute [local go_sem] Oper.semAt_some
theorem Bw {S:lH} {N:Nat} (ih:rR S N) (n:Ck.Node) (ks:List Tree) (rest:List Ck.Node) (i d k B:Nat) (s:CS) (ms:List Nat) (w:World) (hs:(Tree.mk n ks).size≤N+1) (hT:S.R.drop i=(Tree.mk n ks).row++rest) (hA:(Tree.mk n ks).all sK) (hms:ms≠[]) (hb:Bd s B) (hB:B+(Tree.mk n ks).size≤1099511627776) (hsc:s.scopes.length≤d) (hlp:s.loops.length≤d) (hd:d≤257) (hkk:k≤1099511627776) (hK:CK S s ms w) (sO:n.kind=13∨n.kind=14)
  :
  Calls Tryz.prog 29 #[.pointer (some ⟨S.bp,0,none⟩),.int .i64 (i:Int),.int .i64 (d:Int),.int .i64 (k:Int)] w (iq S ms w (jg S.E (Tree.mk n ks) d k s)):=by
 rcases sO with sO|sO
 all_goals
  have t2:=kb sO 2;have t3:=kb sO 3;have t4:=kb sO 4;have t5:=kb sO 5;have t6:=kb sO 6;have t10:=kb sO 10;have t11:=kb sO 11;have t12:=kb sO 12;have t25:=kb sO 25;have t7:=kb sO 7;have t23:=kb sO 23;have uw:=kb sO 13;have uy:=kb sO 14;simp only[Int.reduceBEq]at t2 t3 t4 t5 t6 t10 t11 t12 t25 t7 t23 uw uy;clear sO;obtain⟨r,hr⟩:∃r,Hid (jg S.E (Tree.mk n ks) d k s=r):=⟨_,rfl⟩
  rw[hr.out]
  have HM:Hid ((need (decide (256<d)) 71 n.at' >>= fun _=>(need (s.loops.isEmpty||(n.text != [] && !s.loops.contains n.text)) 82 n.at' >>= fun _=>gu S.E ks (d+1) 0 s))=r):=by
   have h1:=hr.out;unfold jg at h1;simp only[t2,t3,t4,t5,t6,t10,t11,t12,t25,t7,t23,uw,uy,Bool.or_false,Bool.false_or,Bool.or_true,Bool.true_or,Bool.or_self,Bool.false_eq_true,if_true,if_false,reduceIte]at h1;exact h1
  clear hr;obtain⟨hrow,aD⟩:=bJ hT
  have o9:(Tree.mk n ks).size=sizes ks+1:=by simp[Tree.size]
  have hkl:ks.length≤sizes ks:=by rw[←bP];exact eZ ks
  have hil:(i:Int)<S.R.length:=by have:=(List.getElem?_eq_some_iff.1 aD).1;omega
  have hx:n.text.length≤140737488351232:=(hK.ok _ (List.mem_of_getElem? aD)).text;obtain⟨sv,lv,hb0,_,_⟩:=hK.ex
  obtain⟨rc,rz,bE,rb⟩:=hb0.rules
  have hlim:=hK.lim;have ko:=hK.rat.gl;obtain⟨rP,hgl,uW,n0,n1,n2,n3,n4,n5⟩:=Jg hK aD
  obtain⟨W5,gU⟩:∃X,X=nw S n i d ks w:=⟨_,rfl⟩
  obtain⟨kJ,k4,k5,k6,k8,k9,k10⟩:=gU ▸ npre S n i d ks w
  unfold nw at gU;have gP:=hK.fr kJ;obtain⟨Ko,Kq,hb5,_,_⟩:=gP.ex
  have hk:=dM S.bp S.R rest i S.g S.c n ks hT hlim W5 gP.rat _ hb5 rfl;have hcw:=aQ (S:=S) (ms:=ms) (w:=w) (decide (256<(d:Int))) 71 (ks.length:Int) (w.heap.size+1+1+1) n k8 gP.low HM (by simp;omega);have oJ:=Lib.hid gP;have HT:=Lib.hid hT;have HR:=Lib.hid hrow;have HN:=Lib.hid aD;have HA:=Lib.hid hA;have nI:=Lib.hid kJ;have Kr:=Lib.hid hK;have HB:=Lib.hid hb;clear gP hT hrow aD hA kJ hK hb hb5 HM hb0;have hdi:(d:Int)≤300:=by omega
  have hki:(k:Int)≤1099511627776:=by omega
  go_enter Tryz.func29,Tryz.ntmps29
  go_wp2_with (fail)
  go_region
  go_wp2_with (fail)
  rw[←gU];clear gU rc rz bE rb rP ko hgl uW n0 n1 n2 n3 n4 n5
  go_at_call 50
  refine hcw.mono ?_;clear hcw;rintro e1 w1 (⟨ft,rfl,hout⟩|⟨rfl,rfl,hq1,HM⟩)
  ·exact⟨rfl,hout⟩
  have hd2:d≤256:=by simpa using hq1
  obtain⟨c4,z4,s4,l4⟩:=k4.rules
  obtain⟨c5,z5,s5,l5⟩:=k5.rules
  go_wp2_with (fail)
  go_at_call 31
  refine hk.mono ?_;clear hk c4 z4 s4 l4 c5 z5 s5 l5;rintro e2 w2 ⟨v,rfl,hown,hf2⟩;obtain⟨g',cur,sa,sc,rfl,hgb,hcur,hsa,hcap⟩:=fZ hown (k5.fr hf2 (by simp))
  obtain⟨W,hW⟩:∃X,X=w2.alloc (.cells #[.slice sa ks.length sc] 36):=⟨_,rfl⟩
  have kK:Fr [] w2 W:=by rw[hW];exact(Fr.refl _ _).alloc _
  have aN:Fr [] W5 W:=hf2.trans kK
  have nf:NF S n i d ks w.heap.size (w.heap.size+1) (w.heap.size+1+1) (w.heap.size+1+1+1) (w.heap.size+1+1+1+1) (w.heap.size+1+1+1+1+1) w2.heap.size g' sc sa cur W :=
   ⟨k4.fr aN (by simp),k5.fr aN (by simp),k6.fr aN (by simp),k8.fr aN (by simp),k9.fr aN (by simp),k10.fr aN (by simp),by rw[hW];exact au.new _ _ _,hgb.fr kK (by simp),fun j q hj=>hcur j _ (by simp[gM,hj]),fun hne=>hsa (List.length_pos_iff.2 hne),hcap⟩
  have hKW:=oJ.out.fr aN;have hcW:Ct w W:=Ct.aC (nI.out.trans aN);clear kK aN hgb hcur hsa hown hf2 k4 k5 k6 k8 k9 k10 oJ nI
  go_upto_region 7 with(fail)
  rw[←hW];clear hW;generalize w2.heap.size=b12 at *;obtain⟨c8,z8,s8,l8⟩:=nf.h8.rules
  obtain⟨sv,lv,hbk,_,hlr⟩:=hKW.ex
  obtain⟨la,lc,rfl⟩:=gX hlr
  have hll:(s.loops.length:Int)≤300:=by omega
  have hcon:=fJ W.drew (.slice la s.loops.length lc) s.loops.reverse n.text (bO.fr (S:=[]) (oI hlr) (Fr.refl [] _).drew (fun _ _ _ _=>List.not_mem_nil)) (by rw[List.length_reverse];omega);rw[je]at hcon
  obtain⟨lb,hlb⟩:∃lb:Bool,s.loops.contains n.text=lb:=⟨_,rfl⟩
  rw[hlb]at hcon
  have PU:=Lib.hid hlb;clear hlb
  go_wp2_with (fail)
  by_cases hl0:s.loops=[]
  ·skip
   have hS:(SL S w.heap.size (w.heap.size+1+1+1) (w.heap.size+1+1+1+1) n.text (.slice la s.loops.length lc)) W.drew:=⟨nf.sr.drew,hbk.rules.1 6⟩
   refine wp_region_held (S:=SL S w.heap.size (w.heap.size+1+1+1) (w.heap.size+1+1+1+1) n.text (.slice la s.loops.length lc)) (by kernel_rfl) ?_;refine tk 0 (.func (.func 50) #[] #[.pointer (some ⟨w.heap.size+1+1+1,0,none⟩)]) rfl hS (fun X hX=>?_) ?_
   ·obtain⟨⟨hX1,hX2,fP⟩,jP⟩:=hX;go_simp
   simp only[Act.put,acts];refine tk 1 (.pointer (some ⟨S.bp,0,none⟩)) rfl hS (fun X hX=>?_) ?_
   ·obtain⟨⟨hX1,hX2,fP⟩,jP⟩:=hX;go_simp
   simp only[Act.put,acts];refine tk 2 (.pointer (some ⟨S.bp,0,none⟩)) rfl hS (fun X hX=>?_) ?_
   ·go_simp
   simp only[Act.put,acts];refine tk 3 (.pointer (some ⟨S.bp,6,none⟩)) rfl hS (fun X hX=>?_) ?_
   ·go_simp
   simp only[Act.put,acts];refine tk 4 (.slice la s.loops.length lc) rfl hS (fun X hX=>?_) ?_
   ·obtain⟨⟨hX1,hX2,fP⟩,jP⟩:=hX;go_simp
   simp only[Act.put,acts];refine tk 5 (.int .i64 (s.loops.length:Int)) rfl hS (fun X hX=>?_) ?_
   ·go_simp
   simp only[Act.put,acts];refine tk 6 (.bool true) rfl hS (fun X hX=>?_) ?_
   ·go_simp;try simp[hl0]
   simp only[Act.put,acts];refine tk 7 (.bool true) rfl hS (fun X hX=>?_) ?_
   ·go_simp
   simp only[Act.put,acts];refine tks 8 rfl hS ?_;simp only[Act.put,acts];refine tks 9 rfl hS ?_;simp only[Act.put,acts];refine tks 10 rfl hS ?_;simp only[Act.put,acts];refine tks 11 rfl hS ?_;simp only[Act.put,acts];refine tks 12 rfl hS ?_;simp only[Act.put,acts];refine tks 13 rfl hS ?_;simp only[Act.put,acts];refine tks 14 rfl hS ?_;simp only[Act.put,acts];refine tks 15 rfl hS ?_;simp only[Act.put,acts];refine tks 16 rfl hS ?_;simp only[Act.put,acts];refine tks 17 rfl hS ?_;simp only[Act.put,acts];refine tks 18 rfl hS ?_;simp only[Act.put,acts];refine tks 19 rfl hS ?_;simp only[Act.put,acts];refine tks 20 rfl hS ?_;simp only[Act.put,acts];refine tk 21 (.bool true) rfl hS (fun X hX=>?_) ?_
   ·go_simp
   simp only[Act.put,acts];have iL:=aQ (S:=S) (ms:=ms) (w:=w) (true) 82 (ks.length:Int) (w.heap.size+1+1+1) n (nf.h8.fr (Fr.refl [] _).drew (by simp)) (hKW.fr (Fr.refl [] _).drew).low HM (by simp[List.isEmpty_iff.2 hl0]);refine wpAnyH_all (rs:=[22]) (by kernel_rfl) (by simp) ?_;intro i2 hi2;obtain rfl:i2=22:=by simpa using hi2
   refine wpOp_step rfl (fun K0 dz=>?_);rw[if_pos (by kernel_rfl)];go_simp;refine iL.mono ?_;rintro e4 V (⟨ft,rfl,hout⟩|⟨rfl,oK,hq2,HM⟩)
   ·exact⟨rfl,hout⟩
   have jK:Fr [] W V:=by rw[←oK];exact(Fr.refl [] _).drew
   replace nf:=nf.ct (Ct.aC jK);replace hKW:=hKW.fr jK;replace hcW:=hcW.trans (Ct.aC jK);refine dz _ _ ⟨by rw[←oK];exact hS,wpAnyH_done (by kernel_rfl) ?_ _⟩;clear oK jK;have vE:=nf.each ih rest B s ms (by omega) HR.out HA.out.2 hms HB.out (by omega) (by omega) (by omega) hKW (by omega);obtain⟨c10,Oo,s10,l10⟩:=nf.h10.rules
   obtain⟨c12,z12,s12,Gi⟩:=nf.h12.rules
   go_wp2_with (fail)
   go_at_call 51
   refine vE.mono ?_;rintro e5 w5 ho;rcases ho.last HM hcW with⟨ft,h1,rfl,h3⟩|⟨s2,h1,rfl,K2,C2⟩
   ·exact⟨rfl,.inl ⟨ft,h1,rfl,h3⟩⟩
   ·go_wp2
    go_end0
    exact .inr ⟨s2,h1,rfl,K2,C2⟩
  have hle:((s.loops.length:Int)==0)=false:=by simp[hl0]
  have hcq:∀q,Calls Tryz.prog 61 #[.slice la s.loops.length lc,.string ⟨n.text.toArray⟩] (W.drewN q) fun e w''=>e=.returned (.bool lb)∧∃m,w''=W.drewN m:=fun q=>Calls.quiet_of_same ((fJ (W.drewN q) (.slice la s.loops.length lc) s.loops.reverse n.text (bO.fr (S:=[]) (oI hlr) ((Fr.refl [] _).drewN q) (fun _ _ _ _=>List.not_mem_nil)) (by rw[List.length_reverse];omega)).mono (fun e w' h=>⟨by rw[h.1,je,PU.out],h.2.symm⟩))
  have KC:∀q,Calls Tryz.prog 50 #[.bool false,.int .i64 82,.pointer (some ⟨w.heap.size+1+1+1,0,none⟩)] (W.drewN q) fun e w''=>e=.returned (.tuple #[])∧∃m,w''=W.drewN m:=fun q=>Calls.quiet_of_same ((jG false 82 (w.heap.size+1+1+1) { n with kids:=(ks.length:Int) } (W.drewN q) (nf.h8.fr ((Fr.refl [] _).drewN q) List.not_mem_nil)).mono (fun e w' h=>by
   rcases h with⟨h,_⟩|⟨_,h1,h2⟩
   ·cases h
   ·exact⟨h1,h2.symm⟩))
  have hie:s.loops.isEmpty=false:=by simpa using hl0
  by_cases hx0:n.text=[]
  ·skip
   obtain⟨c4,z4,s4,l4⟩:=nf.h4.rules
   obtain⟨c9,z9,s9,l9⟩:=nf.h9.rules
   obtain⟨cb,zb,sb,lb0⟩:=hbk.rules
   have dD:Hid (gu S.E ks (d+1) 0 s=r):=by
    have h1:=HM.out;have e1:(s.loops.isEmpty||(n.text != [] && !s.loops.contains n.text))=false:=by simp[hl0,hx0]
    rw[e1]at h1
    exact h1
   clear HM;have HM:=dD;have abC:=fun q=>nf.ct (Ct.aC ((Fr.refl [] W).drewN q)) |>.each ih rest B s ms (by omega) HR.out HA.out.2 hms HB.out (by omega) (by omega) (by omega) (hKW.fr ((Fr.refl [] W).drewN q)) (by omega)
   obtain⟨c10,Oo,s10,l10⟩:=nf.h10.rules
   obtain⟨c12,z12,s12,Gi⟩:=nf.h12.rules
   go_wp2_with (first|(go_quiet (first|(go_at_call 61;exact hcq _)|(go_at_call 50;exact KC _))))
   go_at_call 51
   refine(abC _).mono ?_
   rintro e5 w5 ho;rcases ho.last HM (hcW.trans (Ct.aC ((Fr.refl [] W).drewN _))) with⟨ft,h1,rfl,h3⟩|⟨s2,h1,rfl,K2,C2⟩
   ·exact⟨rfl,.inl ⟨ft,h1,rfl,h3⟩⟩
   ·go_wp2
    go_end0
    exact .inr ⟨s2,h1,rfl,K2,C2⟩
  have hxe:(n.text != [])=true:=by simpa using hx0
  have hS:(SL S w.heap.size (w.heap.size+1+1+1) (w.heap.size+1+1+1+1) n.text (.slice la s.loops.length lc)) W.drew:=⟨nf.sr.drew,hbk.rules.1 6⟩
  refine wp_region_held (S:=SL S w.heap.size (w.heap.size+1+1+1) (w.heap.size+1+1+1+1) n.text (.slice la s.loops.length lc)) (by kernel_rfl) ?_;refine tk 0 (.func (.func 50) #[] #[.pointer (some ⟨w.heap.size+1+1+1,0,none⟩)]) rfl hS (fun X hX=>?_) ?_
  ·obtain⟨⟨hX1,hX2,fP⟩,jP⟩:=hX;go_simp
  simp only[Act.put,acts];refine tk 1 (.pointer (some ⟨S.bp,0,none⟩)) rfl hS (fun X hX=>?_) ?_
  ·obtain⟨⟨hX1,hX2,fP⟩,jP⟩:=hX;go_simp
  simp only[Act.put,acts];refine tk 2 (.pointer (some ⟨S.bp,0,none⟩)) rfl hS (fun X hX=>?_) ?_
  ·go_simp
  simp only[Act.put,acts];refine tk 3 (.pointer (some ⟨S.bp,6,none⟩)) rfl hS (fun X hX=>?_) ?_
  ·go_simp
  simp only[Act.put,acts];refine tk 4 (.slice la s.loops.length lc) rfl hS (fun X hX=>?_) ?_
  ·obtain⟨⟨hX1,hX2,fP⟩,jP⟩:=hX;go_simp
  simp only[Act.put,acts];refine tk 5 (.int .i64 (s.loops.length:Int)) rfl hS (fun X hX=>?_) ?_
  ·go_simp
  simp only[Act.put,acts];refine tk 6 (.bool false) rfl hS (fun X hX=>?_) ?_
  ·go_simp;try simp[hl0]
  simp only[Act.put,acts];refine tk 7 (.bool false) rfl hS (fun X hX=>?_) ?_
  ·go_simp
  simp only[Act.put,acts];refine tk 8 (.pointer (some ⟨w.heap.size+1+1+1,3,none⟩)) rfl hS (fun X hX=>?_) ?_
  ·go_simp
  simp only[Act.put,acts];refine tk 9 (.string ⟨n.text.toArray⟩) rfl hS (fun X hX=>?_) ?_
  ·obtain⟨⟨hX1,hX2,fP⟩,jP⟩:=hX;go_simp
  simp only[Act.put,acts];refine tk 10 (.bool true) rfl hS (fun X hX=>?_) ?_
  ·go_simp;try simp[hx0]
  simp only[Act.put,acts];refine tk 11 (.bool true) rfl hS (fun X hX=>?_) ?_
  ·go_simp
  simp only[Act.put,acts];refine tk 12 (.pointer (some ⟨S.bp,0,none⟩)) rfl hS (fun X hX=>?_) ?_
  ·obtain⟨⟨hX1,hX2,fP⟩,jP⟩:=hX;go_simp
  simp only[Act.put,acts];refine tk 13 (.pointer (some ⟨S.bp,0,none⟩)) rfl hS (fun X hX=>?_) ?_
  ·go_simp
  simp only[Act.put,acts];refine tk 14 (.pointer (some ⟨S.bp,6,none⟩)) rfl hS (fun X hX=>?_) ?_
  ·go_simp
  simp only[Act.put,acts];refine tk 15 (.slice la s.loops.length lc) rfl hS (fun X hX=>?_) ?_
  ·obtain⟨⟨hX1,hX2,fP⟩,jP⟩:=hX;go_simp
  simp only[Act.put,acts];refine tk 16 (.pointer (some ⟨w.heap.size+1+1+1,3,none⟩)) rfl hS (fun X hX=>?_) ?_
  ·go_simp
  simp only[Act.put,acts];refine tk 17 (.string ⟨n.text.toArray⟩) rfl hS (fun X hX=>?_) ?_
  ·obtain⟨⟨hX1,hX2,fP⟩,jP⟩:=hX;go_simp
  simp only[Act.put,acts];refine wpAnyH_all (rs:=[18]) (by kernel_rfl) (by simp) ?_;intro i2 hi2;obtain rfl:i2=18:=by simpa using hi2
  refine wpOp_step rfl (fun K0 dz=>?_);rw[if_pos (by kernel_rfl)];go_simp;refine hcon.mono ?_;rintro e3 w3 ⟨rfl,rfl⟩;refine dz _ _ ⟨hS,?_⟩;refine tk 19 (.bool (!lb)) rfl hS (fun X hX=>?_) ?_
  ·go_simp
  simp only[Act.put,acts];refine tk 20 (.bool (!lb)) rfl hS (fun X hX=>?_) ?_
  ·go_simp
  simp only[Act.put,acts];refine tk 21 (.bool (!lb)) rfl hS (fun X hX=>?_) ?_
  ·go_simp
  simp only[Act.put,acts];have iL:=aQ (S:=S) (ms:=ms) (w:=w) (!lb) 82 (ks.length:Int) (w.heap.size+1+1+1) n (nf.h8.fr (Fr.refl [] _).drew (by simp)) (hKW.fr (Fr.refl [] _).drew).low HM (by rw[PU.out,hie,hxe];rfl);refine wpAnyH_all (rs:=[22]) (by kernel_rfl) (by simp) ?_;intro i2 hi2;obtain rfl:i2=22:=by simpa using hi2
  refine wpOp_step rfl (fun K0 dz=>?_);rw[if_pos (by kernel_rfl)];go_simp;refine iL.mono ?_;rintro e4 V (⟨ft,rfl,hout⟩|⟨rfl,oK,hq2,HM⟩)
  ·exact⟨rfl,hout⟩
  have jK:Fr [] W V:=by rw[←oK];exact(Fr.refl [] _).drew
  replace nf:=nf.ct (Ct.aC jK);replace hKW:=hKW.fr jK;replace hcW:=hcW.trans (Ct.aC jK);refine dz _ _ ⟨by rw[←oK];exact hS,wpAnyH_done (by kernel_rfl) ?_ _⟩;clear oK jK;have vE:=nf.each ih rest B s ms (by omega) HR.out HA.out.2 hms HB.out (by omega) (by omega) (by omega) hKW (by omega);obtain⟨c10,Oo,s10,l10⟩:=nf.h10.rules
  obtain⟨c12,z12,s12,Gi⟩:=nf.h12.rules
  go_wp2_with (fail)
  go_at_call 51
  refine vE.mono ?_;rintro e5 w5 ho;rcases ho.last HM hcW with⟨ft,h1,rfl,h3⟩|⟨s2,h1,rfl,K2,C2⟩
  ·exact⟨rfl,.inl ⟨ft,h1,rfl,h3⟩⟩
  ·go_wp2
   go_end0
   exact .inr ⟨s2,h1,rfl,K2,C2⟩
end Go.Proofs.YtoomapkcoibmhaaGreatDoor
end
