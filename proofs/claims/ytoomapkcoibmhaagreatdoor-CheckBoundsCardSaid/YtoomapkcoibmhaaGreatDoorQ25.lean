/- A part of the proof. -/
import Derived.Test.YtoomapkcoibmhaaGreatDoorQ24
set_option maxRecDepth 100000
set_option maxHeartbeats 12800000
set_option linter.all false
section
open Go Go.Proofs Go.RowKit Ck
namespace Go.Proofs.YtoomapkcoibmhaaGreatDoor
section
variable {S:zm}
theorem abf {q:gG} (dO:dG 187 S q.expr) (uL:dG 190 S q.choice) (ihl:dG 191 S q.loop) {a:Nat} {toks:List Bytes} {w:World} {r:Option (Unit × (List Ck.Node × List Bytes))} (h:QS S a toks w) (hk:Hid (nk (S.l.drop a)=6)) (HM:Hid (bf q (S.l.drop a,toks)=some r)) :
  Calls Tryz.prog 157 #[.pointer (some ⟨S.bp,0,none⟩)] w (aI S w aY r):=by
 unfold bf at HM;have p0:=Pf.refl S.bp w;have fM:=fq HM;clear HM;simp only[hk.out]at fM;have kt:Hid True:=trivial;have d9:=bB (by decide) fM;clear fM;go_enter Tryz.func157,Tryz.ntmps157
 go_wp2_with (first
   | (go_at_call 74;refine(cO h hk kt).mono ?_;rintro e w2 ⟨rfl,h2,uS⟩;have p2:=p0.trans uS;clear kt)
   | (go_at_call 77;refine(aX (kI 6 1) h2 d9).mono ?_;rintro e w3 (⟨rfl,hr,nA⟩|⟨x,a3,AO,rfl,h3,nA,dW⟩);exact⟨rfl,aI.eD hr (p2.trans nA)⟩;simp only[Fb];have p3:=p2.trans nA;clear d9)
   | (go_at_call 76;refine(aV (l:=[[108,101,116],x,[61]]) h3 dW rfl (by simp) (by first|rfl|simp)).mono ?_;rintro e w4 ⟨rfl,h4,rM,gW⟩;have p4:=p3.trans rM;clear dW)
   | (go_at_call 187;refine(aX dO h4 gW).mono ?_;rintro e w5 (⟨rfl,hr,sD⟩|⟨u5,a5,Px,rfl,h5,sD,gT⟩);exact⟨rfl,aI.eD hr (p4.trans sD)⟩;simp only[aY];have p5:=p4.trans sD;clear gW)
   | (go_at_call 76;refine(aV (l:=[[59]]) h5 (bU gT) rfl (by simp) (by first|rfl|simp)).mono ?_;rintro e w6 ⟨rfl,h6,pQ,iO⟩;have p6:=p5.trans pQ;clear gT))
 go_end0
 exact aI.ret (y:=()) iO h6 p6
theorem abg {q:gG} (dO:dG 187 S q.expr) (uL:dG 190 S q.choice) (ihl:dG 191 S q.loop) {a:Nat} {toks:List Bytes} {w:World} {r:Option (Unit × (List Ck.Node × List Bytes))} (h:QS S a toks w) (hk:Hid (nk (S.l.drop a)=7)) (HM:Hid (bf q (S.l.drop a,toks)=some r)) :
  Calls Tryz.prog 157 #[.pointer (some ⟨S.bp,0,none⟩)] w (aI S w aY r):=by
 unfold bf at HM;have p0:=Pf.refl S.bp w;have fM:=fq HM;clear HM;simp only[hk.out]at fM;have kt:Hid True:=trivial;have d9:=ak (by decide) fM;clear fM;have dD:=bB (by decide) d9;clear d9;go_enter Tryz.func157,Tryz.ntmps157
 go_wp2_with (first
   | (go_at_call 74;refine(cO h hk kt).mono ?_;rintro e w3 ⟨rfl,h3,nA⟩;have p3:=p0.trans nA;clear kt)
   | (go_at_call 77;refine(aX (kI 7 1) h3 dD).mono ?_;rintro e w4 (⟨rfl,hr,rM⟩|⟨x,a4,LM,rfl,h4,rM,gW⟩);exact⟨rfl,aI.eD hr (p3.trans rM)⟩;simp only[Fb];have p4:=p3.trans rM;clear dD)
   | (go_at_call 76;refine(aV (l:=[x,[61]]) h4 gW rfl (by simp) (by first|rfl|simp)).mono ?_;rintro e w5 ⟨rfl,h5,sD,gT⟩;have p5:=p4.trans sD;clear gW)
   | (go_at_call 187;refine(aX dO h5 gT).mono ?_;rintro e w6 (⟨rfl,hr,pQ⟩|⟨u6,a6,He,rfl,h6,pQ,iO⟩);exact⟨rfl,aI.eD hr (p5.trans pQ)⟩;simp only[aY];have p6:=p5.trans pQ;clear gT)
   | (go_at_call 76;refine(aV (l:=[[59]]) h6 (bU iO) rfl (by simp) (by first|rfl|simp)).mono ?_;rintro e w7 ⟨rfl,h7,oO,kV⟩;have p7:=p6.trans oO;clear iO))
 go_end0
 exact aI.ret (y:=()) kV h7 p7
theorem abh {q:gG} (dO:dG 187 S q.expr) (uL:dG 190 S q.choice) (ihl:dG 191 S q.loop) {a:Nat} {toks:List Bytes} {w:World} {r:Option (Unit × (List Ck.Node × List Bytes))} (h:QS S a toks w) (hk:Hid (nk (S.l.drop a)=8)) (HM:Hid (bf q (S.l.drop a,toks)=some r)) :
  Calls Tryz.prog 157 #[.pointer (some ⟨S.bp,0,none⟩)] w (aI S w aY r):=by
 unfold bf at HM;have p0:=Pf.refl S.bp w;have fM:=fq HM;clear HM;simp only[hk.out]at fM;have kt:Hid True:=trivial;have d9:=ak (by decide) fM;clear fM;have dD:=ak (by decide) d9;clear d9;have dW:=bB (by decide) dD;clear dD;go_enter Tryz.func157,Tryz.ntmps157
 go_wp2_with (first
   | (go_at_call 74;refine(cO h hk kt).mono ?_;rintro e w4 ⟨rfl,h4,rM⟩;have p4:=p0.trans rM;clear kt)
   | (go_at_call 188;refine(aX (jl 8 3) h4 dW).mono ?_;rintro e w5 (⟨rfl,hr,sD⟩|⟨u5,a5,Px,rfl,h5,sD,gT⟩);exact⟨rfl,aI.eD hr (p4.trans sD)⟩;simp only[aY];have p5:=p4.trans sD;clear dW)
   | (go_at_call 189;refine(aX (vY dO) h5 gT).mono ?_;rintro e w6 (⟨rfl,hr,pQ⟩|⟨u6,a6,He,rfl,h6,pQ,iO⟩);exact⟨rfl,aI.eD hr (p5.trans pQ)⟩;simp only[aY];have p6:=p5.trans pQ;clear gT)
   | (go_at_call 76;refine(aV (l:=[[61]]) h6 iO rfl (by simp) (by first|rfl|simp)).mono ?_;rintro e w7 ⟨rfl,h7,oO,kV⟩;have p7:=p6.trans oO;clear iO)
   | (go_at_call 187;refine(aX dO h7 kV).mono ?_;rintro e w8 (⟨rfl,hr,qy⟩|⟨u8,a8,LP,rfl,h8,qy,lY⟩);exact⟨rfl,aI.eD hr (p7.trans qy)⟩;simp only[aY];have p8:=p7.trans qy;clear kV)
   | (go_at_call 76;refine(aV (l:=[[59]]) h8 (bU lY) rfl (by simp) (by first|rfl|simp)).mono ?_;rintro e w9 ⟨rfl,h9,nR,lG⟩;have p9:=p8.trans nR;clear lY))
 go_end0
 exact aI.ret (y:=()) lG h9 p9
theorem abj {q:gG} (dO:dG 187 S q.expr) (uL:dG 190 S q.choice) (ihl:dG 191 S q.loop) {a:Nat} {toks:List Bytes} {w:World} {r:Option (Unit × (List Ck.Node × List Bytes))} (h:QS S a toks w) (hk:Hid (nk (S.l.drop a)=9)) (HM:Hid (bf q (S.l.drop a,toks)=some r)) :
  Calls Tryz.prog 157 #[.pointer (some ⟨S.bp,0,none⟩)] w (aI S w aY r):=by
 unfold bf at HM;have p0:=Pf.refl S.bp w;have fM:=fq HM;clear HM;simp only[hk.out]at fM;have kt:Hid True:=trivial;have d9:=ak (by decide) fM;clear fM;have dD:=ak (by decide) d9;clear d9;have dW:=ak (by decide) dD;clear dD;have gW:=bB (by decide) dW;clear dW;go_enter Tryz.func157,Tryz.ntmps157
 go_wp2_with (first
   | (go_at_call 74;refine(cO h hk kt).mono ?_;rintro e w5 ⟨rfl,h5,sD⟩;have p5:=p0.trans sD;clear kt)
   | (go_at_call 190;refine(aX uL h5 (bU gW)).mono ?_;rintro e w6 (⟨rfl,hr,pQ⟩|⟨u6,a6,He,rfl,h6,pQ,iO⟩);exact⟨rfl,aI.eD hr (p5.trans pQ)⟩;simp only[aY];have p6:=p5.trans pQ;clear gW))
 go_end0
 exact aI.ret (y:=()) iO h6 p6
theorem VJ {q:gG} (dO:dG 187 S q.expr) (uL:dG 190 S q.choice) (ihl:dG 191 S q.loop) {a:Nat} {toks:List Bytes} {w:World} {r:Option (Unit × (List Ck.Node × List Bytes))} (h:QS S a toks w) (hk:Hid (nk (S.l.drop a)=10)) (HM:Hid (bf q (S.l.drop a,toks)=some r)) :
  Calls Tryz.prog 157 #[.pointer (some ⟨S.bp,0,none⟩)] w (aI S w aY r):=by
 unfold bf at HM;have p0:=Pf.refl S.bp w;have fM:=fq HM;clear HM;simp only[hk.out]at fM;have kt:Hid True:=trivial;have d9:=ak (by decide) fM;clear fM;have dD:=ak (by decide) d9;clear d9;have dW:=ak (by decide) dD;clear dD;have gW:=ak (by decide) dW;clear dW;have gT:=bB (by decide) gW;clear gW;go_enter Tryz.func157,Tryz.ntmps157
 go_wp2_with (first
   | (go_at_call 74;refine(cO h hk kt).mono ?_;rintro e w6 ⟨rfl,h6,pQ⟩;have p6:=p0.trans pQ;clear kt)
   | (go_at_call 191;refine(aX ihl h6 (bU gT)).mono ?_;rintro e w7 (⟨rfl,hr,oO⟩|⟨u7,a7,Pv,rfl,h7,oO,kV⟩);exact⟨rfl,aI.eD hr (p6.trans oO)⟩;simp only[aY];have p7:=p6.trans oO;clear gT))
 go_end0
 exact aI.ret (y:=()) kV h7 p7
theorem VK {q:gG} (dO:dG 187 S q.expr) (uL:dG 190 S q.choice) (ihl:dG 191 S q.loop) {a:Nat} {toks:List Bytes} {w:World} {r:Option (Unit × (List Ck.Node × List Bytes))} (h:QS S a toks w) (hk:Hid (nk (S.l.drop a)=11)) (HM:Hid (bf q (S.l.drop a,toks)=some r)) :
  Calls Tryz.prog 157 #[.pointer (some ⟨S.bp,0,none⟩)] w (aI S w aY r):=by
 unfold bf at HM;have p0:=Pf.refl S.bp w;have fM:=fq HM;clear HM;simp only[hk.out]at fM;have kt:Hid True:=trivial;have d9:=ak (by decide) fM;clear fM;have dD:=ak (by decide) d9;clear d9;have dW:=ak (by decide) dD;clear dD;have gW:=ak (by decide) dW;clear dW;have gT:=bB (by decide) gW;clear gW;go_enter Tryz.func157,Tryz.ntmps157
 go_wp2_with (first
   | (go_at_call 74;refine(cO h hk kt).mono ?_;rintro e w6 ⟨rfl,h6,pQ⟩;have p6:=p0.trans pQ;clear kt)
   | (go_at_call 191;refine(aX ihl h6 (bU gT)).mono ?_;rintro e w7 (⟨rfl,hr,oO⟩|⟨u7,a7,Pv,rfl,h7,oO,kV⟩);exact⟨rfl,aI.eD hr (p6.trans oO)⟩;simp only[aY];have p7:=p6.trans oO;clear gT))
 go_end0
 exact aI.ret (y:=()) kV h7 p7
theorem VL {q:gG} (dO:dG 187 S q.expr) (uL:dG 190 S q.choice) (ihl:dG 191 S q.loop) {a:Nat} {toks:List Bytes} {w:World} {r:Option (Unit × (List Ck.Node × List Bytes))} (h:QS S a toks w) (hk:Hid (nk (S.l.drop a)=13)) (HM:Hid (bf q (S.l.drop a,toks)=some r)) :
  Calls Tryz.prog 157 #[.pointer (some ⟨S.bp,0,none⟩)] w (aI S w aY r):=by
 unfold bf at HM;have VN:Hid True:=trivial;have p0:=Pf.refl S.bp w;have fM:=fq HM;clear HM;simp only[hk.out]at fM;have kt:Hid True:=trivial;have d9:=ak (by decide) fM;clear fM;have dD:=ak (by decide) d9;clear d9;have dW:=ak (by decide) dD;clear dD;have gW:=ak (by decide) dW;clear dW;have gT:=ak (by decide) gW;clear gW;have iO:=bB (by decide) gT;clear gT;go_enter Tryz.func157,Tryz.ntmps157
 go_upto_if 67 with(first
   | (go_at_call 74;refine(cO h hk kt).mono ?_;rintro e w7 ⟨rfl,h7,oO⟩;have p7:=p0.trans oO;clear kt)
   | (go_at_call 74;refine(cO h7 hk VN).mono ?_;rintro e w8 ⟨rfl,h8,qy⟩;have p8:=p7.trans qy;clear VN)
   | (go_at_call 75;refine(kH h8 iO).mono ?_;rintro e w9 (⟨rfl,hr,nR⟩|⟨n,a9,rfl,Py,RO,h9,nR,lG⟩);exact⟨rfl,aI.eD hr (p8.trans nR)⟩;have p9:=p8.trans nR;have ok9:=h9.ok _ Py;clear iO;have bn:=au.new w9 #[.int .i64 n.kind,.int .i64 n.at',.int .i64 n.kids,.string ⟨n.text.toArray⟩,.int .i64 n.int,.int .u64 n.bits] 40;obtain⟨iy,iJ,aU,iK⟩:=bn.rules;have bZ:w9.heap.size≠S.bp:=(by have:=h9.lt;omega);have h10:=h9.alloc (.cells #[.int .i64 n.kind,.int .i64 n.at',.int .i64 n.kids,.string ⟨n.text.toArray⟩,.int .i64 n.int,.int .u64 n.bits] 40);have sF:=p9.trans (QS.yJ h9 ((Fr.refl _ _).alloc (.cells #[.int .i64 n.kind,.int .i64 n.at',.int .i64 n.kids,.string ⟨n.text.toArray⟩,.int .i64 n.int,.int .u64 n.bits] 40))))
   | (go_at_call 48;refine(iY (n.kids==0) _).mono ?_;rintro e Kg (⟨AP,rfl,rfl⟩|⟨AP,rfl,rfl⟩);have fV:=(dP lG).1 AP;rotate_left;exact⟨rfl,aI.eD ((dP lG).2 AP) sF⟩;clear lG)
   | (go_at_call 76;refine(aV (l:=[[98,114,101,97,107]]) h10 fV rfl (by simp) (by first|rfl|simp)).mono ?_;rintro e Jd ⟨rfl,h12,iA,iB⟩;have qK:=sF.trans iA;have bn:=QS.bI h10 iA bn (by decide) bZ;obtain⟨iy,iJ,aU,iK⟩:=bn.rules;clear fV))
 cases et:n.text.isEmpty
 ·skip
  have jr:=bB (xH et) iB;clear iB
  go_wp2_with (first
    | (go_at_call 104;refine(pO h12 ok9.text jr).mono ?_;rintro e M8 (⟨rfl,hr,iI⟩|⟨rfl,xJ,iI,lq⟩);exact⟨rfl,aI.eD hr (qK.trans iI)⟩;have Cw:=qK.trans iI;have bn:=QS.bI h12 iI bn (by decide) bZ;obtain⟨iy,iJ,aU,iK⟩:=bn.rules;clear jr)
    | (go_at_call 76;refine(aV (l:=[n.text]) xJ lq rfl (by simp) (by first|rfl|simp)).mono ?_;rintro e RP ⟨rfl,mW,lu,uT⟩;have Fx:=Cw.trans lu;have bn:=QS.bI xJ lu bn (by decide) bZ;obtain⟨iy,iJ,aU,iK⟩:=bn.rules;clear lq)
    | (go_at_call 76;refine(aV (l:=[[59]]) mW (bU uT) rfl (by simp) (by first|rfl|simp)).mono ?_;rintro e w16 ⟨rfl,h16,vZ,Fy⟩;have p16:=Fx.trans vZ;have bn:=QS.bI mW vZ bn (by decide) bZ;obtain⟨iy,iJ,aU,iK⟩:=bn.rules;clear uT))
  go_end0
  exact aI.ret (y:=()) Fy h16 p16
 ·skip
  have jr:=ak (xI et) iB;clear iB
  go_wp2_with (first
    | (go_at_call 76;refine(aV (l:=[[59]]) h12 (bU jr) rfl (by simp) (by first|rfl|simp)).mono ?_;rintro e M8 ⟨rfl,xJ,iI,lq⟩;have Cw:=qK.trans iI;have bn:=QS.bI h12 iI bn (by decide) bZ;obtain⟨iy,iJ,aU,iK⟩:=bn.rules;clear jr))
  go_end0
  exact aI.ret (y:=()) lq xJ Cw
theorem VO {q:gG} (dO:dG 187 S q.expr) (uL:dG 190 S q.choice) (ihl:dG 191 S q.loop) {a:Nat} {toks:List Bytes} {w:World} {r:Option (Unit × (List Ck.Node × List Bytes))} (h:QS S a toks w) (hk:Hid (nk (S.l.drop a)=14)) (HM:Hid (bf q (S.l.drop a,toks)=some r)) :
  Calls Tryz.prog 157 #[.pointer (some ⟨S.bp,0,none⟩)] w (aI S w aY r):=by
 unfold bf at HM;have VN:Hid True:=trivial;have p0:=Pf.refl S.bp w;have fM:=fq HM;clear HM;simp only[hk.out]at fM;have kt:Hid True:=trivial;have d9:=ak (by decide) fM;clear fM;have dD:=ak (by decide) d9;clear d9;have dW:=ak (by decide) dD;clear dD;have gW:=ak (by decide) dW;clear dW;have gT:=ak (by decide) gW;clear gW;have iO:=bB (by decide) gT;clear gT;go_enter Tryz.func157,Tryz.ntmps157
 go_upto_if 67 with(first
   | (go_at_call 74;refine(cO h hk kt).mono ?_;rintro e w7 ⟨rfl,h7,oO⟩;have p7:=p0.trans oO;clear kt)
   | (go_at_call 74;refine(cO h7 hk VN).mono ?_;rintro e w8 ⟨rfl,h8,qy⟩;have p8:=p7.trans qy;clear VN)
   | (go_at_call 75;refine(kH h8 iO).mono ?_;rintro e w9 (⟨rfl,hr,nR⟩|⟨n,a9,rfl,Py,RO,h9,nR,lG⟩);exact⟨rfl,aI.eD hr (p8.trans nR)⟩;have p9:=p8.trans nR;have ok9:=h9.ok _ Py;clear iO;have bn:=au.new w9 #[.int .i64 n.kind,.int .i64 n.at',.int .i64 n.kids,.string ⟨n.text.toArray⟩,.int .i64 n.int,.int .u64 n.bits] 40;obtain⟨iy,iJ,aU,iK⟩:=bn.rules;have bZ:w9.heap.size≠S.bp:=(by have:=h9.lt;omega);have h10:=h9.alloc (.cells #[.int .i64 n.kind,.int .i64 n.at',.int .i64 n.kids,.string ⟨n.text.toArray⟩,.int .i64 n.int,.int .u64 n.bits] 40);have sF:=p9.trans (QS.yJ h9 ((Fr.refl _ _).alloc (.cells #[.int .i64 n.kind,.int .i64 n.at',.int .i64 n.kids,.string ⟨n.text.toArray⟩,.int .i64 n.int,.int .u64 n.bits] 40))))
   | (go_at_call 48;refine(iY (n.kids==0) _).mono ?_;rintro e Kg (⟨AP,rfl,rfl⟩|⟨AP,rfl,rfl⟩);have fV:=(dP lG).1 AP;rotate_left;exact⟨rfl,aI.eD ((dP lG).2 AP) sF⟩;clear lG)
   | (go_at_call 76;refine(aV (l:=[[99,111,110,116,105,110,117,101]]) h10 fV rfl (by simp) (by first|rfl|simp)).mono ?_;rintro e Jd ⟨rfl,h12,iA,iB⟩;have qK:=sF.trans iA;have bn:=QS.bI h10 iA bn (by decide) bZ;obtain⟨iy,iJ,aU,iK⟩:=bn.rules;clear fV))
 cases et:n.text.isEmpty
 ·skip
  have jr:=bB (xH et) iB;clear iB
  go_wp2_with (first
    | (go_at_call 104;refine(pO h12 ok9.text jr).mono ?_;rintro e M8 (⟨rfl,hr,iI⟩|⟨rfl,xJ,iI,lq⟩);exact⟨rfl,aI.eD hr (qK.trans iI)⟩;have Cw:=qK.trans iI;have bn:=QS.bI h12 iI bn (by decide) bZ;obtain⟨iy,iJ,aU,iK⟩:=bn.rules;clear jr)
    | (go_at_call 76;refine(aV (l:=[n.text]) xJ lq rfl (by simp) (by first|rfl|simp)).mono ?_;rintro e RP ⟨rfl,mW,lu,uT⟩;have Fx:=Cw.trans lu;have bn:=QS.bI xJ lu bn (by decide) bZ;obtain⟨iy,iJ,aU,iK⟩:=bn.rules;clear lq)
    | (go_at_call 76;refine(aV (l:=[[59]]) mW (bU uT) rfl (by simp) (by first|rfl|simp)).mono ?_;rintro e w16 ⟨rfl,h16,vZ,Fy⟩;have p16:=Fx.trans vZ;have bn:=QS.bI mW vZ bn (by decide) bZ;obtain⟨iy,iJ,aU,iK⟩:=bn.rules;clear uT))
  go_end0
  exact aI.ret (y:=()) Fy h16 p16
 ·skip
  have jr:=ak (xI et) iB;clear iB
  go_wp2_with (first
    | (go_at_call 76;refine(aV (l:=[[59]]) h12 (bU jr) rfl (by simp) (by first|rfl|simp)).mono ?_;rintro e M8 ⟨rfl,xJ,iI,lq⟩;have Cw:=qK.trans iI;have bn:=QS.bI h12 iI bn (by decide) bZ;obtain⟨iy,iJ,aU,iK⟩:=bn.rules;clear jr))
  go_end0
  exact aI.ret (y:=()) lq xJ Cw
theorem VQ {q:gG} (dO:dG 187 S q.expr) (uL:dG 190 S q.choice) (ihl:dG 191 S q.loop) {a:Nat} {toks:List Bytes} {w:World} {r:Option (Unit × (List Ck.Node × List Bytes))} (h:QS S a toks w) (hk:Hid (nk (S.l.drop a)=15)) (HM:Hid (bf q (S.l.drop a,toks)=some r)) :
  Calls Tryz.prog 157 #[.pointer (some ⟨S.bp,0,none⟩)] w (aI S w aY r):=by
 unfold bf at HM;have p0:=Pf.refl S.bp w;have fM:=fq HM;clear HM;simp only[hk.out]at fM;have kt:Hid True:=trivial;have d9:=ak (by decide) fM;clear fM;have dD:=ak (by decide) d9;clear d9;have dW:=ak (by decide) dD;clear dD;have gW:=ak (by decide) dW;clear dW;have gT:=ak (by decide) gW;clear gW;have iO:=ak (by decide) gT;clear gT;have kV:=bB (by decide) iO;clear iO;go_enter Tryz.func157,Tryz.ntmps157
 go_upto_if 87 with(first
   | (go_at_call 74;refine(cO h hk kt).mono ?_;rintro e w8 ⟨rfl,h8,qy⟩;have p8:=p0.trans qy;clear kt)
   | (go_at_call 75;refine(kH h8 kV).mono ?_;rintro e w9 (⟨rfl,hr,nR⟩|⟨n,a9,rfl,Py,RO,h9,nR,lG⟩);exact⟨rfl,aI.eD hr (p8.trans nR)⟩;have p9:=p8.trans nR;have ok9:=h9.ok _ Py;clear kV;have bn:=au.new w9 #[.int .i64 n.kind,.int .i64 n.at',.int .i64 n.kids,.string ⟨n.text.toArray⟩,.int .i64 n.int,.int .u64 n.bits] 40;obtain⟨iy,iJ,aU,iK⟩:=bn.rules;have bZ:w9.heap.size≠S.bp:=(by have:=h9.lt;omega);have h10:=h9.alloc (.cells #[.int .i64 n.kind,.int .i64 n.at',.int .i64 n.kids,.string ⟨n.text.toArray⟩,.int .i64 n.int,.int .u64 n.bits] 40);have sF:=p9.trans (QS.yJ h9 ((Fr.refl _ _).alloc (.cells #[.int .i64 n.kind,.int .i64 n.at',.int .i64 n.kids,.string ⟨n.text.toArray⟩,.int .i64 n.int,.int .u64 n.bits] 40))))
   | (go_at_call 48;refine(iY (decide (n.kids≤1)) _).mono ?_;rintro e Kg (⟨AP,rfl,rfl⟩|⟨AP,rfl,rfl⟩);have fV:=(dP lG).1 AP;rotate_left;exact⟨rfl,aI.eD ((dP lG).2 AP) sF⟩;clear lG)
   | (go_at_call 76;refine(aV (l:=[[114,101,116,117,114,110]]) h10 fV rfl (by simp) (by first|rfl|simp)).mono ?_;rintro e Jd ⟨rfl,h12,iA,iB⟩;have qK:=sF.trans iA;have bn:=QS.bI h10 iA bn (by decide) bZ;obtain⟨iy,iJ,aU,iK⟩:=bn.rules;clear fV))
 cases c1:(n.kids==1)
 rotate_left
 ·skip
  have jr:=bB c1 iB;clear iB
  go_wp2_with (first
    | (go_at_call 187;refine(aX dO h12 jr).mono ?_;rintro e M8 (⟨rfl,hr,iI⟩|⟨u14,a14,Ki,rfl,xJ,iI,lq⟩);exact⟨rfl,aI.eD hr (qK.trans iI)⟩;simp only[aY];have Cw:=qK.trans iI;have bn:=QS.bI h12 iI bn (by decide) bZ;obtain⟨iy,iJ,aU,iK⟩:=bn.rules;clear jr)
    | (go_at_call 76;refine(aV (l:=[[59]]) xJ (bU lq) rfl (by simp) (by first|rfl|simp)).mono ?_;rintro e RP ⟨rfl,mW,lu,uT⟩;have Fx:=Cw.trans lu;have bn:=QS.bI xJ lu bn (by decide) bZ;obtain⟨iy,iJ,aU,iK⟩:=bn.rules;clear lq))
  go_end0
  exact aI.ret (y:=()) uT mW Fx
 ·skip
  have jr:=ak (by simp[c1]) iB;clear iB
  go_wp2_with (first
    | (go_at_call 76;refine(aV (l:=[[59]]) h12 (bU jr) rfl (by simp) (by first|rfl|simp)).mono ?_;rintro e M8 ⟨rfl,xJ,iI,lq⟩;have Cw:=qK.trans iI;have bn:=QS.bI h12 iI bn (by decide) bZ;obtain⟨iy,iJ,aU,iK⟩:=bn.rules;clear jr))
  go_end0
  exact aI.ret (y:=()) lq xJ Cw
theorem VR {q:gG} (dO:dG 187 S q.expr) (uL:dG 190 S q.choice) (ihl:dG 191 S q.loop) {a:Nat} {toks:List Bytes} {w:World} {r:Option (Unit × (List Ck.Node × List Bytes))} (h:QS S a toks w) (hk:Hid (nk (S.l.drop a)=16)) (HM:Hid (bf q (S.l.drop a,toks)=some r)) :
  Calls Tryz.prog 157 #[.pointer (some ⟨S.bp,0,none⟩)] w (aI S w aY r):=by
 unfold bf at HM;have p0:=Pf.refl S.bp w;have fM:=fq HM;clear HM;simp only[hk.out]at fM;have kt:Hid True:=trivial;have d9:=ak (by decide) fM;clear fM;have dD:=ak (by decide) d9;clear d9;have dW:=ak (by decide) dD;clear dD;have gW:=ak (by decide) dW;clear dW;have gT:=ak (by decide) gW;clear gW;have iO:=ak (by decide) gT;clear gT;have kV:=ak (by decide) iO;clear iO;have lY:=bB (by decide) kV;clear kV;go_enter Tryz.func157,Tryz.ntmps157
 go_wp2_with (first
   | (go_at_call 74;refine(cO h hk kt).mono ?_;rintro e w9 ⟨rfl,h9,nR⟩;have p9:=p0.trans nR;clear kt)
   | (go_at_call 188;refine(aX (jl 16 1) h9 lY).mono ?_;rintro e Cv (⟨rfl,hr,jd⟩|⟨u10,a10,Ke,rfl,h10,jd,gN⟩);exact⟨rfl,aI.eD hr (p9.trans jd)⟩;simp only[aY];have sF:=p9.trans jd;clear lY)
   | (go_at_call 76;refine(aV (l:=[[111,117,116]]) h10 gN rfl (by simp) (by first|rfl|simp)).mono ?_;rintro e Kg ⟨rfl,h11,j6,fV⟩;have za:=sF.trans j6;clear gN)
   | (go_at_call 187;refine(aX dO h11 fV).mono ?_;rintro e Jd (⟨rfl,hr,iA⟩|⟨u12,a12,Pw,rfl,h12,iA,iB⟩);exact⟨rfl,aI.eD hr (za.trans iA)⟩;simp only[aY];have qK:=za.trans iA;clear fV)
   | (go_at_call 76;refine(aV (l:=[[59]]) h12 (bU iB) rfl (by simp) (by first|rfl|simp)).mono ?_;rintro e Rf ⟨rfl,D6,lZ,jr⟩;have C9:=qK.trans lZ;clear iB))
 go_end0
 exact aI.ret (y:=()) jr D6 C9
theorem VT {q:gG} (dO:dG 187 S q.expr) (uL:dG 190 S q.choice) (ihl:dG 191 S q.loop) {a:Nat} {toks:List Bytes} {w:World} {r:Option (Unit × (List Ck.Node × List Bytes))} (h:QS S a toks w) {kk:Int} (hk:Hid (nk (S.l.drop a)=kk)) (e6:(kk==6)=false) (e7:(kk==7)=false) (e8:(kk==8)=false) (e9:(kk==9)=false) (e10:(kk==10)=false) (e11:(kk==11)=false) (e13:(kk==13)=false) (e14:(kk==14)=false) (e15:(kk==15)=false) (e16:(kk==16)=false) (HM:Hid (bf q (S.l.drop a,toks)=some r)) :
  Calls Tryz.prog 157 #[.pointer (some ⟨S.bp,0,none⟩)] w (aI S w aY r):=by
 unfold bf at HM;have p0:=Pf.refl S.bp w;have fM:=fq HM;clear HM;simp only[hk.out]at fM;have kt:Hid True:=trivial;have d9:=ak (by simp[e6]) fM;clear fM;have dD:=ak (by simp[e7]) d9;clear d9;have dW:=ak (by simp[e8]) dD;clear dD;have gW:=ak (by simp[e9]) dW;clear dW;have gT:=ak (by simp[e10,e11]) gW;clear gW;have iO:=ak (by simp[e13,e14]) gT;clear gT;have kV:=ak (by simp[e15]) iO;clear iO;have lY:=ak (by simp[e16]) kV;clear kV;go_enter Tryz.func157,Tryz.ntmps157
 go_wp2_with (first
   | (go_at_call 74;refine(cO h hk kt).mono ?_;rintro e w9 ⟨rfl,h9,nR⟩;have p9:=p0.trans nR;clear kt)
   | (go_at_call 188;refine(aX (jl 17 1) h9 lY).mono ?_;rintro e Cv (⟨rfl,hr,jd⟩|⟨u10,a10,Ke,rfl,h10,jd,gN⟩);exact⟨rfl,aI.eD hr (p9.trans jd)⟩;simp only[aY];have sF:=p9.trans jd;clear lY)
   | (go_at_call 187;refine(aX dO h10 gN).mono ?_;rintro e Kg (⟨rfl,hr,j6⟩|⟨u11,a11,Kh,rfl,h11,j6,fV⟩);exact⟨rfl,aI.eD hr (sF.trans j6)⟩;simp only[aY];have za:=sF.trans j6;clear gN)
   | (go_at_call 76;refine(aV (l:=[[59]]) h11 (bU fV) rfl (by simp) (by first|rfl|simp)).mono ?_;rintro e Jd ⟨rfl,h12,iA,iB⟩;have qK:=za.trans iA;clear fV))
 go_end0
 exact aI.ret (y:=()) iB h12 qK
theorem AQ {q:gG} (dO:dG 187 S q.expr) (uL:dG 190 S q.choice) (ihl:dG 191 S q.loop):dG 157 S (bf q):=by
 intro a toks w r h HM;obtain⟨kk,hk⟩:∃kk,Hid (nk (S.l.drop a)=kk):=⟨_,rfl⟩
 cases e6:(kk==6)
 rotate_left
 ·obtain rfl:kk=6:=by simpa using e6
  exact abf dO uL ihl h hk HM
 cases e7:(kk==7)
 rotate_left
 ·obtain rfl:kk=7:=by simpa using e7
  exact abg dO uL ihl h hk HM
 cases e8:(kk==8)
 rotate_left
 ·obtain rfl:kk=8:=by simpa using e8
  exact abh dO uL ihl h hk HM
 cases e9:(kk==9)
 rotate_left
 ·obtain rfl:kk=9:=by simpa using e9
  exact abj dO uL ihl h hk HM
 cases e10:(kk==10)
 rotate_left
 ·obtain rfl:kk=10:=by simpa using e10
  exact VJ dO uL ihl h hk HM
 cases e11:(kk==11)
 rotate_left
 ·obtain rfl:kk=11:=by simpa using e11
  exact VK dO uL ihl h hk HM
 cases e13:(kk==13)
 rotate_left
 ·obtain rfl:kk=13:=by simpa using e13
  exact VL dO uL ihl h hk HM
 cases e14:(kk==14)
 rotate_left
 ·obtain rfl:kk=14:=by simpa using e14
  exact VO dO uL ihl h hk HM
 cases e15:(kk==15)
 rotate_left
 ·obtain rfl:kk=15:=by simpa using e15
  exact VQ dO uL ihl h hk HM
 cases e16:(kk==16)
 rotate_left
 ·obtain rfl:kk=16:=by simpa using e16
  exact VR dO uL ihl h hk HM
 exact VT dO uL ihl h hk e6 e7 e8 e9 e10 e11 e13 e14 e15 e16 HM
end
end Go.Proofs.YtoomapkcoibmhaaGreatDoor
end
