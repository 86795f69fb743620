/- A part of the proof. -/
import Derived.DeepKeys4
import Derived.Test.YtoomapkcoibmhaaGreatDoorQ32
set_option maxRecDepth 100000
set_option maxHeartbeats 12800000
set_option linter.all false
section
open Go Go.Proofs Go.RowKit Go.Shelf Go.Maps Ck
namespace Go.Proofs.YtoomapkcoibmhaaGreatDoor
attribute [local go_sem] Oper.semAt_some
theorem KA {S:lH} {N:Nat} (ih:rR S N) (n:Ck.Node) (ks:List Tree) (rest:List Ck.Node) (i d k B:Nat) (s:CS) (ms:List Nat) (w:World) (hs:(Tree.mk n ks).size≤N+1) (hT:S.R.drop i=(Tree.mk n ks).row++rest) (hA:(Tree.mk n ks).all sK) (hms:ms≠[]) (hb:Bd s B) (hB:B+(Tree.mk n ks).size≤1099511627776) (hsc:s.scopes.length≤d) (hlp:s.loops.length≤d) (hd:d≤257) (hkk:k≤1099511627776) (hK:CK S s ms w)
  (t2:(n.kind==2)=false) (t3:(n.kind==3)=false) (t4:(n.kind==4)=false) (t5:(n.kind==5)=false) (t6:(n.kind==6)=false) (t10:(n.kind==10)=false) (t11:(n.kind==11)=false) (t12:(n.kind==12)=false) (t25:(n.kind==25)=false) (t7:(n.kind==7)=false) (t23:(n.kind==23)=true) (uw:(n.kind==13)=false) (uy:(n.kind==14)=false) :
  Calls Tryz.prog 29 #[.pointer (some ⟨S.bp,0,none⟩),.int .i64 (i:Int),.int .i64 (d:Int),.int .i64 (k:Int)] w (iq S ms w (jg S.E (Tree.mk n ks) d k s)):=by
 obtain⟨r,hr⟩:∃r,Hid (jg S.E (Tree.mk n ks) d k s=r):=⟨_,rfl⟩
 rw[hr.out]
 have HM:Hid ((need (decide (256<d)) 71 n.at' >>= fun _=>(match (match lookup S.E.params n.text with|some a=>some a|none=>arity n.text) with|none=>(Except.error ⟨63,n.at'⟩ >>= fun(_:Unit)=>gu S.E ks (d+1) 0 s)|some a=>need (a != (ks.length:Int)) 81 n.at' >>= fun _=>gu S.E ks (d+1) 0 s))=r):=by
  have h1:=hr.out;unfold jg at h1;simp only[t2,t3,t4,t5,t6,t10,t11,t12,t25,t7,t23,uw,uy,Bool.or_false,Bool.false_or,Bool.or_true,Bool.true_or,Bool.or_self,Bool.false_eq_true,if_true,if_false,reduceIte]at h1;exact h1
 clear hr;obtain⟨hrow,aD⟩:=bJ hT
 have o9:(Tree.mk n ks).size=sizes ks+1:=by simp[Tree.size]
 have hkl:ks.length≤sizes ks:=by rw[←bP];exact eZ ks
 have hil:(i:Int)<S.R.length:=by have:=(List.getElem?_eq_some_iff.1 aD).1;omega
 have hx:n.text.length≤140737488351232:=(hK.ok _ (List.mem_of_getElem? aD)).text;obtain⟨sv,lv,hb0,_,_⟩:=hK.ex
 obtain⟨rc,rz,bE,rb⟩:=hb0.rules
 have hlim:=hK.lim;have ko:=hK.rat.gl;obtain⟨rP,hgl,uW,n0,n1,n2,n3,n4,n5⟩:=Jg hK aD
 obtain⟨W5,gU⟩:∃X,X=nw S n i d ks w:=⟨_,rfl⟩
 obtain⟨kJ,k4,k5,k6,k8,k9,k10⟩:=gU ▸ npre S n i d ks w
 unfold nw at gU;have gP:=hK.fr kJ;obtain⟨Ko,Kq,hb5,_,_⟩:=gP.ex
 have hk:=dM S.bp S.R rest i S.g S.c n ks hT hlim W5 gP.rat _ hb5 rfl;have hcw:=aQ (S:=S) (ms:=ms) (w:=w) (decide (256<(d:Int))) 71 (ks.length:Int) (w.heap.size+1+1+1) n k8 gP.low HM (by simp;omega);have oJ:=Lib.hid gP;have HT:=Lib.hid hT;have HR:=Lib.hid hrow;have HN:=Lib.hid aD;have HA:=Lib.hid hA;have nI:=Lib.hid kJ;have Kr:=Lib.hid hK;have HB:=Lib.hid hb;clear gP hT hrow aD hA kJ hK hb hb5 HM hb0;have hdi:(d:Int)≤300:=by omega
 have hki:(k:Int)≤1099511627776:=by omega
 go_enter Tryz.func29,Tryz.ntmps29
 go_wp2_with (fail)
 go_region
 go_wp2_with (fail)
 rw[←gU];clear gU rc rz bE rb rP ko hgl uW n0 n1 n2 n3 n4 n5
 go_at_call 50
 refine hcw.mono ?_;clear hcw;rintro e1 w1 (⟨ft,rfl,hout⟩|⟨rfl,rfl,hq1,HM⟩)
 ·exact⟨rfl,hout⟩
 have hd2:d≤256:=by simpa using hq1
 obtain⟨c4,z4,s4,l4⟩:=k4.rules
 obtain⟨c5,z5,s5,l5⟩:=k5.rules
 go_wp2_with (fail)
 go_at_call 31
 refine hk.mono ?_;clear hk c4 z4 s4 l4 c5 z5 s5 l5;rintro e2 w2 ⟨v,rfl,hown,hf2⟩;obtain⟨g',cur,sa,sc,rfl,hgb,hcur,hsa,hcap⟩:=fZ hown (k5.fr hf2 (by simp))
 obtain⟨W,hW⟩:∃X,X=w2.alloc (.cells #[.slice sa ks.length sc] 36):=⟨_,rfl⟩
 have kK:Fr [] w2 W:=by rw[hW];exact(Fr.refl _ _).alloc _
 have aN:Fr [] W5 W:=hf2.trans kK
 have nf:NF S n i d ks w.heap.size (w.heap.size+1) (w.heap.size+1+1) (w.heap.size+1+1+1) (w.heap.size+1+1+1+1) (w.heap.size+1+1+1+1+1) w2.heap.size g' sc sa cur W :=
  ⟨k4.fr aN (by simp),k5.fr aN (by simp),k6.fr aN (by simp),k8.fr aN (by simp),k9.fr aN (by simp),k10.fr aN (by simp),by rw[hW];exact au.new _ _ _,hgb.fr kK (by simp),fun j q hj=>hcur j _ (by simp[gM,hj]),fun hne=>hsa (List.length_pos_iff.2 hne),hcap⟩
 have hKW:=oJ.out.fr aN;have hcW:Ct w W:=Ct.aC (nI.out.trans aN);clear kK aN hgb hcur hsa hown hf2 k4 k5 k6 k8 k9 k10 oJ nI
 go_upto_region 7 with(fail)
 rw[←hW];clear hW;generalize w2.heap.size=b12 at *;obtain⟨c8,z8,s8,l8⟩:=nf.h8.rules
 obtain⟨nn,D,hown,hnn,hmap⟩:=hKW.par
 have hkey:=uj (x:=n.text) (by simp[maxLen];omega);obtain⟨c4,z4,s4,l4⟩:=nf.h4.rules
 obtain⟨c9,z9,s9,l9⟩:=nf.h9.rules
 obtain⟨c10,Oo,s10,l10⟩:=nf.h10.rules
 obtain⟨c12,z12,s12,Gi⟩:=nf.h12.rules
 obtain⟨sv,lv,hbk,_,_⟩:=hKW.ex
 obtain⟨cb,zb,sb,lb⟩:=hbk.rules
 have hhas:=(hmap n.text).1;have hat:=(hmap n.text).2;cases hl:lookup S.E.params n.text with
 | some a =>
  rw[hl]at hhas hat
  simp only[Option.isSome_some,Option.getD_some]at hhas hat
  have dD:Hid ((need (a != (ks.length:Int)) 81 n.at' >>= fun _=>gu S.E ks (d+1) 0 s)=r):=by
   have h1:=HM.out;rw[hl]at h1
   exact h1
  go_wp2_with (fail)
  have hS:(fun X:World=>X=W.drew) W.drew:=rfl;refine wp_region_held (S:=fun X:World=>X=W.drew) (by kernel_rfl) ?_;refine tk 0 (.pointer (some ⟨S.bp,0,none⟩)) rfl hS (fun X hX=>?_) ?_
  ·subst hX;go_simp
  simp only[Act.put,acts];refine tk 1 (.pointer (some ⟨S.bp,0,none⟩)) rfl hS (fun X hX=>?_) ?_
  ·go_simp
  simp only[Act.put,acts];refine tk 2 (.pointer (some ⟨S.bp,3,none⟩)) rfl hS (fun X hX=>?_) ?_
  ·go_simp
  simp only[Act.put,acts];refine tk 3 (.map (some S.mp)) rfl hS (fun X hX=>?_) ?_
  ·subst hX;go_simp
  simp only[Act.put,acts];refine tk 4 (.pointer (some ⟨w.heap.size+1+1+1,3,none⟩)) rfl hS (fun X hX=>?_) ?_
  ·go_simp
  simp only[Act.put,acts];refine tk 5 (.string ⟨n.text.toArray⟩) rfl hS (fun X hX=>?_) ?_
  ·subst hX;go_simp
  simp only[Act.put,acts];refine wpAnyH_all (rs:=[6]) (by kernel_rfl) (by simp) ?_;intro i2 hi2;obtain rfl:i2=6:=by simpa using hi2
  refine wpOp_step rfl (fun K0 dz=>?_);rw[if_pos (by kernel_rfl)];refine oL W.drew (.tmp 276) (.tmp 278) 65 rfl 9 3 .i64 l6 Tryz.underlying65 Tryz.underlying3 (Hz _) S.mp nn D (by kernel_rfl) (fI hown ((Fr.refl [] W).drew.block _ hown.lt List.not_mem_nil)) (.string ⟨n.text.toArray⟩) _ (by kernel_rfl) hkey ?_;intro c hc1;rw[hhas];rw[hat]at hc1
  obtain rfl:a=c:=by simpa using hc1
  refine dz _ _ ⟨hS,?_⟩;refine tk 7 (.tuple #[.int .i64 a,.bool true]) rfl hS (fun X hX=>?_) ?_
  ·go_simp
  simp only[Act.put,acts];refine tk 8 (.int .i64 a) rfl hS (fun X hX=>?_) ?_
  ·go_simp
  simp only[Act.put,acts];refine tk 9 (.bool true) rfl hS (fun X hX=>?_) ?_
  ·go_simp
  simp only[Act.put,acts];refine tk 10 (.int .i64 a) rfl hS (fun X hX=>?_) ?_
  ·go_simp
  simp only[Act.put,acts];refine tk 11 (.bool true) rfl hS (fun X hX=>?_) ?_
  ·go_simp
  simp only[Act.put,acts];refine wpAnyH_done (by kernel_rfl) ?_ _;have vO:Fr [] W W.drew:=(Fr.refl _ _).drew;have iL:=aQ (S:=S) (ms:=ms) (w:=w) (a != (ks.length:Int)) 81 (ks.length:Int) (w.heap.size+1+1+1) n (nf.h8.fr vO (by simp)) (hKW.fr vO).low dD rfl
  go_wp2_with (fail)
  go_at_call 50
  refine(jG false 63 (w.heap.size+1+1+1) { n with kids:=(ks.length:Int) } W.drew (nf.h8.fr vO (by simp))).mono ?_
  rintro e7 w7 (⟨hf,_,_⟩|⟨_,rfl,rfl⟩)
  ·cases hf
  go_wp2_with (fail)
  go_at_call 50
  refine iL.mono ?_;rintro e8 w8 (⟨ft,rfl,hout⟩|⟨rfl,rfl,hq2,HM⟩)
  ·exact⟨rfl,hout⟩
  replace nf:=nf.ct (Ct.aC vO);replace hKW:=hKW.fr vO;replace hcW:=hcW.trans (Ct.aC vO);clear iL;have vE:=nf.each ih rest B s ms (by omega) HR.out HA.out.2 hms HB.out (by omega) (by omega) (by omega) hKW (by omega)
  go_wp2_with (fail)
  go_at_call 51
  refine vE.mono ?_;rintro e5 w5 ho;rcases ho.last HM hcW with⟨ft,h1,rfl,h3⟩|⟨s2,h1,rfl,K2,C2⟩
  ·exact⟨rfl,.inl ⟨ft,h1,rfl,h3⟩⟩
  ·go_wp2
   go_end0
   exact .inr ⟨s2,h1,rfl,K2,C2⟩
 | none =>
  rw[hl]at hhas hat
  simp only[Option.isSome_none,Option.getD_none]at hhas hat
  go_wp2_with (fail)
  have hS:(fun X:World=>X=W.drew) W.drew:=rfl;refine wp_region_held (S:=fun X:World=>X=W.drew) (by kernel_rfl) ?_;refine tk 0 (.pointer (some ⟨S.bp,0,none⟩)) rfl hS (fun X hX=>?_) ?_
  ·subst hX;go_simp
  simp only[Act.put,acts];refine tk 1 (.pointer (some ⟨S.bp,0,none⟩)) rfl hS (fun X hX=>?_) ?_
  ·go_simp
  simp only[Act.put,acts];refine tk 2 (.pointer (some ⟨S.bp,3,none⟩)) rfl hS (fun X hX=>?_) ?_
  ·go_simp
  simp only[Act.put,acts];refine tk 3 (.map (some S.mp)) rfl hS (fun X hX=>?_) ?_
  ·subst hX;go_simp
  simp only[Act.put,acts];refine tk 4 (.pointer (some ⟨w.heap.size+1+1+1,3,none⟩)) rfl hS (fun X hX=>?_) ?_
  ·go_simp
  simp only[Act.put,acts];refine tk 5 (.string ⟨n.text.toArray⟩) rfl hS (fun X hX=>?_) ?_
  ·subst hX;go_simp
  simp only[Act.put,acts];refine wpAnyH_all (rs:=[6]) (by kernel_rfl) (by simp) ?_;intro i2 hi2;obtain rfl:i2=6:=by simpa using hi2
  refine wpOp_step rfl (fun K0 dz=>?_);rw[if_pos (by kernel_rfl)];refine oL W.drew (.tmp 276) (.tmp 278) 65 rfl 9 3 .i64 l6 Tryz.underlying65 Tryz.underlying3 (Hz _) S.mp nn D (by kernel_rfl) (fI hown ((Fr.refl [] W).drew.block _ hown.lt List.not_mem_nil)) (.string ⟨n.text.toArray⟩) _ (by kernel_rfl) hkey ?_;intro c hc1;rw[hhas];rw[hat]at hc1
  obtain rfl:0=c:=by simpa using hc1
  refine dz _ _ ⟨hS,?_⟩;refine tk 7 (.tuple #[.int .i64 0,.bool false]) rfl hS (fun X hX=>?_) ?_
  ·go_simp
  simp only[Act.put,acts];refine tk 8 (.int .i64 0) rfl hS (fun X hX=>?_) ?_
  ·go_simp
  simp only[Act.put,acts];refine tk 9 (.bool false) rfl hS (fun X hX=>?_) ?_
  ·go_simp
  simp only[Act.put,acts];refine tk 10 (.int .i64 0) rfl hS (fun X hX=>?_) ?_
  ·go_simp
  simp only[Act.put,acts];refine tk 11 (.bool false) rfl hS (fun X hX=>?_) ?_
  ·go_simp
  simp only[Act.put,acts];refine wpAnyH_done (by kernel_rfl) ?_ _
  go_wp2_with (fail)
  have har:=xM n.text (by simp[maxLen];omega) W.drew
  go_at_call 54
  refine har.mono ?_;rintro e6 w6 ⟨rfl,jA⟩;have vO:Fr [] W w6:=((Fr.refl [] _).drew).trans jA;obtain⟨c9,z9,s9,l9⟩:=(nf.h9.fr vO (by simp)).rules
  obtain⟨c8,z8,s8,l8⟩:=(nf.h8.fr vO (by simp)).rules
  obtain⟨c10,Oo,s10,l10⟩:=(nf.h10.fr vO (by simp)).rules
  obtain⟨c12,z12,s12,Gi⟩:=(nf.h12.fr vO (by simp)).rules
  cases hal:Ck.arity n.text with
  | none =>
   simp only[Option.isSome_none,Option.getD_none]
   go_wp2_with (fail)
   go_at_call 50
   refine(jG true 63 (w.heap.size+1+1+1) { n with kids:=(ks.length:Int) } w6 (nf.h8.fr vO (by simp))).mono ?_
   rintro e7 w7 (⟨_,rfl,rfl⟩|⟨hf,_,_⟩)
   ·refine⟨rfl,.inl ⟨⟨63,n.at'⟩,?_,rfl,(hKW.fr vO).low⟩⟩;have h1:=HM.out;rw[hl,hal]at h1
    exact h1.symm
   ·cases hf
  | some a =>
   simp only[Option.isSome_some,Option.getD_some]
   have dD:Hid ((need (a != (ks.length:Int)) 81 n.at' >>= fun _=>gu S.E ks (d+1) 0 s)=r):=by
    have h1:=HM.out;rw[hl,hal]at h1
    exact h1
   have iL:=aQ (S:=S) (ms:=ms) (w:=w) (a != (ks.length:Int)) 81 (ks.length:Int) (w.heap.size+1+1+1) n (nf.h8.fr vO (by simp)) (hKW.fr vO).low dD rfl
   go_wp2_with (fail)
   go_at_call 50
   refine(jG false 63 (w.heap.size+1+1+1) { n with kids:=(ks.length:Int) } w6 (nf.h8.fr vO (by simp))).mono ?_
   rintro e7 w7 (⟨hf,_,_⟩|⟨_,rfl,rfl⟩)
   ·cases hf
   go_wp2_with (fail)
   go_at_call 50
   refine iL.mono ?_;rintro e8 w8 (⟨ft,rfl,hout⟩|⟨rfl,rfl,hq2,HM⟩)
   ·exact⟨rfl,hout⟩
   replace nf:=nf.ct (Ct.aC vO);replace hKW:=hKW.fr vO;replace hcW:=hcW.trans (Ct.aC vO);clear iL;have vE:=nf.each ih rest B s ms (by omega) HR.out HA.out.2 hms HB.out (by omega) (by omega) (by omega) hKW (by omega)
   go_wp2_with (fail)
   go_at_call 51
   refine vE.mono ?_;rintro e5 w5 ho;rcases ho.last HM hcW with⟨ft,h1,rfl,h3⟩|⟨s2,h1,rfl,K2,C2⟩
   ·exact⟨rfl,.inl ⟨ft,h1,rfl,h3⟩⟩
   ·go_wp2
    go_end0
    exact .inr ⟨s2,h1,rfl,K2,C2⟩
theorem Tryz.laidOut:laidOutB Tryz.prog=true:=by kernel_rfl
theorem R9:(40:TypeId)<Tryz.prog.types.size:=of_decide_eq_true (by kernel_rfl)
theorem Qb:(match Tryz.prog.underlying 40 with|some (.array _ _)|some (.struct _)=>true|_=>false)=true:=by rw[Tryz.underlying40]
theorem abd:Keyed Tryz.prog 40:=Keyed.of_law (deep_law_laid Tryz.laidOut (m:=2) (by omega) R9 (by kernel_rfl) Qb)
def wC (n:Ck.Node):Value:=.agg #[.int .i64 n.kind,.int .i64 0,.int .i64 n.kids,.string ⟨n.text.toArray⟩,.int .i64 n.int,.int .u64 n.bits]
structure L8 (n:Ck.Node):Prop where
 kind:0≤n.kind∧n.kind≤1000
 kids:0≤n.kids
 ok:uQ n
theorem Nr (n:Ck.Node) (h:L8 n):∃kl,keyOf Tryz.prog 40 (wC n)=some kl:=by
 obtain⟨e,he⟩:∃e,Tryz.prog.types.size=e+1:=⟨Tryz.prog.types.size-1,by kernel_rfl⟩
 have h1:Tryz.prog.keyType 40=true:=by kernel_rfl
 have hc:Tryz.prog.cellsOf 40=6:=by kernel_rfl
 have hci:Tryz.prog.cellsOf 3=1:=by kernel_rfl
 have hcs:Tryz.prog.cellsOf 9=1:=by kernel_rfl
 have hcu:Tryz.prog.cellsOf 38=1:=by kernel_rfl
 have h2:(wC n).formed Tryz.prog 40=true:=by simp[wC,Value.formed,Tryz.underlying40,hc]
 have k1:=h.kind;have k2:=h.kids;have k3:=h.ok.kids;have k4:=h.ok.JK;have k5:=h.ok.JL;have k6:=h.ok.Al;have k7:=h.ok.Am;have k8:=h.ok.text;have w1:(Lit.int .i64 n.kind).wf=true:=by simp[Lit.wf,IntKind.min,IntKind.max,IntKind.signed,IntKind.bits];omega
 have w2:(Lit.int .i64 0).wf=true:=by decide
 have w3:(Lit.int .i64 n.kids).wf=true:=by simp[Lit.wf,IntKind.min,IntKind.max,IntKind.signed,IntKind.bits];omega
 have w4:(Lit.int .i64 n.int).wf=true:=by simp[Lit.wf,IntKind.min,IntKind.max,IntKind.signed,IntKind.bits];omega
 have w5:(Lit.int .u64 n.bits).wf=true:=by simp[Lit.wf,IntKind.min,IntKind.max,IntKind.signed,IntKind.bits];omega
 have w6:n.text.length≤maxLen:=by simp[maxLen];omega
 have abJ:Tryz.prog.cellsOf 2=1:=by kernel_rfl
 have w7:(⟨n.text.toArray⟩:ByteArray).size≤maxLen:=by simpa[ByteArray.size]using w6
 unfold keyOf;rw[Tryz.underlying40];simp only[h1,h2,he,Bool.and_self,if_true];simp[Program.keyLits,Tryz.underlying40,Tryz.underlying3,Tryz.underlying9,Tryz.underlying38,wC,Value.cells,hc,hci,hcs,hcu,w1,w2,w3,w4,w5,w7,abJ,Tryz.underlying2]
theorem Qc (n m:Ck.Node):wC n=wC m↔sameConst n m=true:=by
 unfold wC sameConst;constructor
 ·intro h;simp at h;simp[h]
 ·intro h;simp at h;obtain⟨⟨⟨⟨h1,h2⟩,h3⟩,h4⟩,h5⟩:=h
  rw[h1,h2,h3,h4,h5]
theorem Ij {n m:Ck.Node} {a b:Lit} (ha:keyOf Tryz.prog 40 (wC n)=some a) (hb:keyOf Tryz.prog 40 (wC m)=some b):a=b↔sameConst n m=true:=by
 rw[←Qc];constructor
 ·rintro rfl;exact abd.inj ha hb
 ·intro h;rw[h]at ha;exact Option.some.inj (ha.symm.trans hb)
def Met (w:World) (b q:Nat) (met:List Ck.Node):Prop :=
 ∃D,w.ownsMap (H:=Unit) Tryz.prog 40 unitElem b q D∧Maps.size D=met.length∧∀m:Ck.Node,∀kl,keyOf Tryz.prog 40 (wC m)=some kl→Maps.has D kl=met.any (sameConst m)
theorem Dl {n m:Ck.Node} {l:List Ck.Node} (h:sameConst n m=true):l.any (sameConst n)=l.any (sameConst m):=by
 have:∀x,sameConst n x=sameConst m x:=fun x=>by
  unfold sameConst at h ⊢;simp at h;obtain⟨⟨⟨⟨h1,h2⟩,h3⟩,h4⟩,h5⟩:=h
  rw[h1,h2,h3,h4,h5]
 rw[funext this]
theorem Met.put {w w1:World} {b q:Nat} {met:List Ck.Node} {n:Ck.Node} {D d:DataW Unit} {kl:Lit} (hown:w.ownsMap (H:=Unit) Tryz.prog 40 unitElem b q D) (hs:Maps.size D=met.length)
  (hh:∀m:Ck.Node,∀kl,keyOf Tryz.prog 40 (wC m)=some kl→Maps.has D kl=met.any (sameConst m)) (hk:keyOf Tryz.prog 40 (wC n)=some kl) (h1:w1.ownsMap (H:=Unit) Tryz.prog 40 unitElem b (q+1) (D.put kl d)) :
  Met w1 b (q+1) (if !(met.any (sameConst n))then n::met else met):=by
 have hz:=size_put (k:=kl) (hown.tidy abd) d;have hn:=hh n kl hk;have hkl:=abd.key hk
 have hhas:∀m:Ck.Node,∀ml,keyOf Tryz.prog 40 (wC m)=some ml→Maps.has (D.put kl d) ml=(sameConst m n||met.any (sameConst m)):=fun m ml hm=>by
  by_cases e:ml=kl
  ·subst e;rw[has_put_same hown.isMap hkl];rw[(Ij hm hk).1 rfl];rfl
  ·rw[has_put_other e,hh m ml hm]
   have:sameConst m n=false:=by
    rw[Bool.eq_false_iff];intro h;exact e ((Ij hm hk).2 h)
   rw[this];rfl
 rw[hn]at hz
 cases hb:met.any (sameConst n) with
 | true =>
  rw[hb]at hz
  refine⟨_,h1,by simpa[hs]using hz,fun m ml hm=>?_⟩;rw[hhas m ml hm];cases hmn:sameConst m n with
  | true =>
   show(true||_)=met.any (sameConst m)
   rw[Dl hmn,hb];rfl
  | false=>simp
 | false =>
  rw[hb]at hz
  refine⟨_,h1,by simpa[hs]using hz,fun m ml hm=>?_⟩;rw[hhas m ml hm];simp
theorem Met.fr {w w':World} {b q:Nat} {met:List Ck.Node} (h:Met w b q met) (hf:Fr [] w w'):Met w' b q met:=by
 obtain⟨D,h1,h2,h3⟩:=h
 exact⟨D,fI h1 (hf.block b h1.lt (by simp)),h2,h3⟩
theorem Met.mono {w:World} {b q:Nat} {met:List Ck.Node} (h:Met w b q met):Met w b (q+1) met:=by
 obtain⟨D,⟨es,cl,h1,h2,h3,h4⟩,h5,h6⟩:=h
 exact⟨D,⟨es,cl,h1,h2,by omega,h4⟩,h5,h6⟩
theorem yN (n:Ck.Node) (l met:List Ck.Node):unlike (n::l) met=if (isConst n && !met.any (sameConst n))=true then unlike l (n::met)else unlike l met:=rfl
theorem BN (S:lH) (hlim:S.R.length≤1099511627776) (hcap:S.R.length≤S.c∧S.c≤maxLen) (T:Tree) (rest:List Ck.Node) (i:Nat) (w:World) (hT:S.R.drop i=T.row++rest) (hw:HW S w) (hok:∀m∈T.row,L8 m) :
  Calls Tryz.prog 58 #[.pointer (some ⟨S.bp,0,none⟩),.int .i64 (i:Int)] w fun e w'=>e=.returned (.int .i64 ((Ck.constants T:Nat):Int))∧Fr [] w w':=by
 obtain⟨cs,hb,hcs⟩:=hw.oP
 have WB:i+T.row.length≤S.R.length:=by
  have:=congrArg List.length hT
  rw[List.length_drop,List.length_append]at this
  have h1:=kg T
  have:=size_pos T
  omega
 have Ec:=fun q=>G7 S.bp S.R rest i S.g S.c T hT hlim ((w.alloc (.map #[] 0)).drewN q) (hw.row.fr (((Fr.refl [] w).alloc _).drewN q) (by simp)) cs (hb.fr (((Fr.refl [] w).alloc _).drewN q) (by simp)) hcs
 obtain⟨z,hz⟩:∃z,T.row.length=z:=⟨_,rfl⟩
 rw[hz]at Ec WB
 have hcq:=fun q=>Calls.quiet_of_same ((Ec q).mono (fun e w' h=>⟨h.1,h.2.symm⟩))
 clear Ec;have hc1:((i+z:Nat):Int)≤S.c:=by have:=hcap.1;omega
 have hc2:(S.c:Int)≤9223372036854775807:=by have:=hcap.2;unfold maxLen at this;omega
 have hc3:(S.R.length:Int)≤S.c:=by have:=hcap.1;omega
 have hz1:1≤z:=by rw[←hz,kg];exact size_pos T
 have hSi:¬S.c=i:=by omega
 have hi0:(i:Int)≤((i+z:Nat):Int):=by omega
 obtain⟨kc,kz,aH,kb⟩:=hb.rules
 have kc0:w.cell? ⟨S.bp,0,none⟩=some (.slice (some ⟨S.g,0,none⟩) S.R.length S.c):=(kc 0).trans hcs;have kbk:∀q,S.bp<w.heap.size+q:=fun q=>by omega
 have HT:=Lib.hid hT;have HW0:=Lib.hid hw;have HOK:=Lib.hid hok;have HZ:=Lib.hid hz;have HTL:=Lib.hid WB;have hM0:Met (w.alloc (.map #[] 0)) w.heap.size 0 []:=⟨_,World.ownsMap_made w _ _ _,by simp[Maps.size],fun m kl h=>by simp[Maps.has]⟩
 have hmm:=@run_makeMap Tryz.prog;clear hT hw hok hz WB hcap hb hcs kc;go_enter Tryz.func58,Tryz.ntmps58
 go_wp2_with (go_quiet ((go_at_call 53;exact hcq _)))
 have hzi:(z:Int)≤1099511627776:=by have:=HTL.out;omega
 have hU:Hid (∃met,Met ((w.alloc (.map #[] 0)).drewN nq) w.heap.size 0 met∧unlike (T.row.drop 0) met=unlike T.row []∧Fr [] w ((w.alloc (.map #[] 0)).drewN nq)):=⟨[],hM0.fr ((Fr.refl [] _).drewN nq),rfl,((Fr.refl [] w).alloc _).drewN nq⟩
 try simp only[Nat.add_sub_cancel_left,Int.natCast_add]
 go_loopw [7,19] (fun _x j wr=>∃q:Nat,j=.int .i64 q∧q≤z∧Hid (∃met,Met wr w.heap.size q met∧unlike (T.row.drop q) met=unlike T.row []∧Fr [] w wr)) (fun _ j _=>z-(intOf j).toNat)
 case atStart=>exact⟨0,rfl,Nat.zero_le _,hU⟩
 case round =>
  obtain⟨q,rfl,hq1,hq⟩:=hrel
  obtain⟨met,m1,m2,m3⟩:=hq.out
  clear hq;by_cases hlt:q<z
  ·obtain⟨nd,hnd⟩:∃nd,T.row[q]? = some nd:=⟨_,List.getElem?_eq_getElem (by rw[HZ.out];exact hlt)⟩
   have WH:S.R[i+q]? = some nd:=by
    have h1:=congrArg (fun l=>l[q]?) HT.out;simp only[List.getElem?_drop]at h1;rw[h1,List.getElem?_append_left (by rw[HZ.out];exact hlt),hnd]
   have hKO:=HOK.out nd (List.mem_of_getElem? hnd);obtain⟨kl,hkl⟩:=Nr nd hKO
   have KI:=HW0.out.row.fr m3 (by simp);have hgl:=KI.gl;have cB:=KI.cells (i+q) nd WH;have n0:wr.cell? ⟨S.g,i*6+q*6,none⟩=some (.int .i64 nd.kind):=by have h1:=cB 0 (by omega);rwa [show(i+q)*6+0=i*6+q*6 by omega]at h1
   have n1:wr.cell? ⟨S.g,i*6+q*6+1,none⟩=some (.int .i64 nd.at'):=by have h1:=cB 1 (by omega);rwa [show(i+q)*6+1=i*6+q*6+1 by omega]at h1
   have n2:wr.cell? ⟨S.g,i*6+q*6+2,none⟩=some (.int .i64 nd.kids):=by have h1:=cB 2 (by omega);rwa [show(i+q)*6+2=i*6+q*6+2 by omega]at h1
   have n3:wr.cell? ⟨S.g,i*6+q*6+3,none⟩=some (.string ⟨nd.text.toArray⟩):=by have h1:=cB 3 (by omega);rwa [show(i+q)*6+3=i*6+q*6+3 by omega]at h1
   have n4:wr.cell? ⟨S.g,i*6+q*6+4,none⟩=some (.int .i64 nd.int):=by have h1:=cB 4 (by omega);rwa [show(i+q)*6+4=i*6+q*6+4 by omega]at h1
   have n5:wr.cell? ⟨S.g,i*6+q*6+5,none⟩=some (.int .u64 nd.bits):=by have h1:=cB 5 (by omega);rwa [show(i+q)*6+5=i*6+q*6+5 by omega]at h1
   have hdrop:T.row.drop q=nd::T.row.drop (q+1):=by
    rw[List.drop_eq_getElem_cons (by rw[HZ.out];exact hlt)];rw[List.getElem?_eq_getElem (by rw[HZ.out];exact hlt)]at hnd
    rw[Option.some.inj hnd]
   rw[hdrop]at m2
   have M2:=Lib.hid m2;have M3:=Lib.hid m3;have hnq:q<maxLen:=by simp[maxLen];omega
   clear hnd WH KI cB hdrop m2 m3;cases hcn:isConst nd with
   | true =>
    obtain⟨D,hown,hsz,hhas⟩:=m1
    have hown2:=fun X (hX:Fr [] wr X)=>fI hown (hX.block _ hown.lt (by simp))
    have HH:=Lib.hid (And.intro hsz (And.intro hhas hown))
    have hk3:(nd.kind==26)=true∨((nd.kind==26)=false∧(nd.kind==27)=true)∨((nd.kind==26)=false∧(nd.kind==27)=false∧(nd.kind==28)=true):=by
     unfold isConst at hcn;cases h1:(nd.kind==26)<;>cases h2:(nd.kind==27)<;>cases h3:(nd.kind==28)<;>simp[h1,h2,h3]at hcn ⊢
    have WI:=Lib.hid hcn;clear hcn hsz hhas hown;rcases hk3 with k26|⟨k26,k27⟩|⟨k26,k27,k28⟩
    all_goals
     go_wp2_with (refine wpList_mapUpdate_own _ rfl _ _ _ 133 rfl 40 70 abd Tryz.underlying133 unitElem w.heap.size q D rfl (hown2 _ ((Fr.refl [] _).alloc _)) hnq (wC nd) _ kl rfl rfl hkl (.agg []) [] unitElem_mk ?_;intro w1 hown1 hg1)
     go_roundw
     case rel =>
      refine⟨q+1,by go_num,by omega,_,Met.put HH.out.2.2 HH.out.1 HH.out.2.1 hkl hown1,?_,(M3.out.alloc _).grown hg1 (fun k e=>.inr (by injection e with e;omega))⟩;have h1:=M2.out;rw[yN,WI.out]at h1
      cases hma:met.any (sameConst nd)<;>rw[hma]at h1<;>exact h1
     case measure=>simp[intOf];omega
   | false =>
    have hk3:(nd.kind==26)=false∧(nd.kind==27)=false∧(nd.kind==28)=false:=by
     unfold isConst at hcn;cases h1:(nd.kind==26)<;>cases h2:(nd.kind==27)<;>cases h3:(nd.kind==28)<;>simp[h1,h2,h3]at hcn ⊢
    obtain⟨k26,k27,k28⟩:=hk3
    have WI:=Lib.hid hcn;clear hcn
    go_wp2_with (fail)
    go_roundw
    case rel =>
     refine⟨q+1,by go_num,by omega,met,(m1.fr ((Fr.refl [] _).alloc _)).mono,?_,M3.out.alloc _⟩;have h1:=M2.out;rw[yN,WI.out]at h1
     exact h1
    case measure=>simp[intOf];omega
  ·obtain rfl:q=z:=by omega
   have hlast:(met.length:Int)=(Ck.constants T:Nat):=by
    rw[←HZ.out,List.drop_length]at m2
    unfold Ck.constants;rw[←m2];rfl
   obtain⟨D,hown,hsz,hhas⟩:=m1
   have HM:=Lib.hid (And.intro hlast m3);clear hlast m3 m2 hhas
   go_wp2_with (at_len;refine wpList_len_own _ rfl _ 133 rfl 40 70 Tryz.underlying133 unitElem w.heap.size q D rfl hown ?_)
   go_ret;exact⟨by rw[←HM.out.1];rfl,HM.out.2⟩
end Go.Proofs.YtoomapkcoibmhaaGreatDoor
end
section
namespace Ck
theorem abK (X:Except dS CS) (g:CS→Except dS CS):(X >>= fun s'=>g { s' with scopes:=s'.scopes.tail })=((X >>= fun s'=>pure { s' with scopes:=s'.scopes.tail }) >>= g):=by
 cases X<;>rfl
end Ck
end
