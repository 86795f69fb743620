/- A part of the proof. -/
import Derived.Test.YtoomapkcoibmhaaGreatDoorQ16
set_option maxRecDepth 100000
set_option maxHeartbeats 12800000
set_option linter.all false
section
open Go Go.Proofs Go.RowKit Go.Shelf Ck
namespace Go.Proofs.YtoomapkcoibmhaaGreatDoor
theorem zl {W:World} {lo hi c:Nat} {n:Ck.Node} (h:au W c (aj n 0 (.slice none 0 0)) 90) (h1:lo≤c) (h2:c<hi):Sp W lo hi c (.mk n []):=by
 simp only[Sp];exact⟨h1,h2,0,_,[],h,⟨rfl,.inl ⟨rfl,rfl⟩⟩,fun g e=>by simp[Value.ownBlock]at e,by simp only[iw];exact⟨trivial,by omega⟩⟩
theorem CV {S:jf} {r:Rec} (CU:Sat Idx r.expr) (dO:iU 154 S r.expr) (uL:iU 155 S r.choice) (ihl:EY S r.loop):iU 103 S (iP S.F r):=by
 intro a w res h hm0;have hbp:=h.blk.lt;have hlim:=h.lim;obtain⟨i0,hi,hz0,hz1,hz2⟩:=info_parts Tryz.infoSprout
 unfold iP at hm0;obtain⟨e,hm1,rfl⟩|⟨t,xg,hm1,hm⟩:=bind_some hm0
 ·go_enter Tryz.func103,Tryz.ntmps103
  go_wp2_with (go_at_call 40;refine(vN h hm1).mono ?_;rintro e w1 ⟨rfl,hf1⟩)
  exact⟨rfl,rfl,hf1⟩
 have c1:=LA h hm1;obtain rfl:xg=S.ts a:=by rw[look_eq]at hm1;split at hm1<;>first|(cases hm1;rfl)|cases hm1
 clear hm1 hm0;cases h1:t.kind==1
 ·simp only[h1,Bool.false_eq_true,if_false]at hm;rw[bind_eq,P.bind,aZ]at hm
  simp only[Bool.false_eq_true,if_false]at hm;cases h2:t.kind==2
  ·simp only[h2,Bool.false_eq_true,if_false]at hm;cases res with
   | error f =>
    go_enter Tryz.func103,Tryz.ntmps103
    go_wp2_with (first|(go_at_call 40;refine c1.mono ?_;rintro e w1 ⟨rfl,ha,aA,hf1,bK,hfA,jY,dV,hfB,hw1⟩;clear c1;obtain⟨kc,kz,aH,kb⟩:=aA.blk.rules)|(go_at_call 152;refine(kR CU dO _ _ _ dV hm).mono ?_;rintro e w9 hO;obtain⟨rfl,jC⟩:=hO))
    exact⟨rfl,rfl,(hfB).trans jC⟩
   | ok p =>
    obtain⟨T,JD⟩:=p
    go_enter Tryz.func103,Tryz.ntmps103
    go_wp2_with (first|(go_at_call 40;refine c1.mono ?_;rintro e w1 ⟨rfl,ha,aA,hf1,bK,hfA,jY,dV,hfB,hw1⟩;clear c1;obtain⟨kc,kz,aH,kb⟩:=aA.blk.rules)|(go_at_call 152;refine(kR CU dO _ _ _ dV hm).mono ?_;rintro e w9 hO;obtain⟨b9,a9,rfl,rfl,kF,jC,uN⟩:=hO))
    go_ret;exact⟨b9,a9,rfl,rfl,kF,(hfB).trans jC,uN.wide (hfB).size (Nat.le_refl _)⟩
  ·simp only[h2,if_true]at hm;cases xl:t.text==[108,101,116]
   case true =>
    simp only[xl,Bool.false_or,Bool.or_false,Bool.or_true,Bool.true_or,Bool.or_self,Bool.false_eq_true,if_false,if_true]at hm;rw[bind_eq,P.bind,ni]at hm
    simp only at hm;obtain⟨e,hm2,rfl⟩|⟨n,tL,hm2,hm⟩:=bind_some hm
    ·go_enter Tryz.func103,Tryz.ntmps103
     go_wp2_with (first|(go_at_call 40;refine c1.mono ?_;rintro e w1 ⟨rfl,ha,aA,hf1,bK,hfA,jY,dV,hfB,hw1⟩;clear c1;obtain⟨kc,kz,aH,kb⟩:=aA.blk.rules)|(go_at_call 42;refine(kX bK hm2).mono ?_;rintro e w2 ⟨rfl,hf2⟩))
     exact⟨rfl,rfl,hfA.trans hf2⟩
    obtain⟨e,dH,rfl⟩|⟨u,wR,dH,hm⟩:=bind_some hm
    ·go_enter Tryz.func103,Tryz.ntmps103
     go_wp2_with (first|(go_at_call 40;refine c1.mono ?_;rintro e w1 ⟨rfl,ha,aA,hf1,bK,hfA,jY,dV,hfB,hw1⟩;clear c1;obtain⟨kc,kz,aH,kb⟩:=aA.blk.rules)|(go_at_call 42;refine(gy bK hm2).mono ?_;rintro e w2 ⟨rfl,a2,rfl,aG,hf2⟩;clear hm2;have qj:=au.new w2 #[.int .i64 n.kind,.int .i64 n.at',.string ⟨n.text.toArray⟩,.int .i64 n.int,.int .u64 n.bits] 82;have hw2:=(hfA.trans hf2).size)|(go_at_call 43;refine(gQ (aG.fr ((Fr.refl [] _).alloc (aO n))) dH).mono ?_;rintro e w3 ⟨rfl,hf3⟩))
     exact⟨rfl,rfl,((hfA.trans hf2).alloc (aO n)).trans hf3⟩
    obtain⟨e,iV,rfl⟩|⟨E,Jy,iV,hm⟩:=bind_some hm
    ·go_enter Tryz.func103,Tryz.ntmps103
     go_wp2_with (first|(go_at_call 40;refine c1.mono ?_;rintro e w1 ⟨rfl,ha,aA,hf1,bK,hfA,jY,dV,hfB,hw1⟩;clear c1;obtain⟨kc,kz,aH,kb⟩:=aA.blk.rules)|(go_at_call 42;refine(gy bK hm2).mono ?_;rintro e w2 ⟨rfl,a2,rfl,aG,hf2⟩;clear hm2;have qj:=au.new w2 #[.int .i64 n.kind,.int .i64 n.at',.string ⟨n.text.toArray⟩,.int .i64 n.int,.int .u64 n.bits] 82;have hw2:=(hfA.trans hf2).size)|(go_at_call 43;refine(dZ (aG.fr ((Fr.refl [] _).alloc (aO n))) dH).mono ?_;rintro e w3 ⟨rfl,a3,rfl,bY,hf3⟩;clear dH;have uO:=qj.fr hf3 (by simp;omega);obtain⟨nc,nz,nN,nb⟩:=uO.rules;have ny:=((hfA.trans hf2).alloc (aO n)).trans hf3;have hw3:=ny.size))
     go_region_dies
     all_goals (go_at_call 154;refine(dO _ _ _ (bY.fr (Fr.refl [] _).drew) iV).mono ?_;rintro e w4 ⟨rfl,eY⟩)
     all_goals exact⟨rfl,rfl,(ny.drew).trans eY⟩
    cases res with
    | error f =>
     go_enter Tryz.func103,Tryz.ntmps103
     go_wp2_with (first|(go_at_call 40;refine c1.mono ?_;rintro e w1 ⟨rfl,ha,aA,hf1,bK,hfA,jY,dV,hfB,hw1⟩;clear c1;obtain⟨kc,kz,aH,kb⟩:=aA.blk.rules)|(go_at_call 42;refine(gy bK hm2).mono ?_;rintro e w2 ⟨rfl,a2,rfl,aG,hf2⟩;clear hm2;have qj:=au.new w2 #[.int .i64 n.kind,.int .i64 n.at',.string ⟨n.text.toArray⟩,.int .i64 n.int,.int .u64 n.bits] 82;have hw2:=(hfA.trans hf2).size)|(go_at_call 43;refine(dZ (aG.fr ((Fr.refl [] _).alloc (aO n))) dH).mono ?_;rintro e w3 ⟨rfl,a3,rfl,bY,hf3⟩;clear dH;have uO:=qj.fr hf3 (by simp;omega);obtain⟨nc,nz,nN,nb⟩:=uO.rules;have ny:=((hfA.trans hf2).alloc (aO n)).trans hf3;have hw3:=ny.size))
     go_region_held2 (fun X=>X.cell? ⟨w2.heap.size,1,none⟩=some (.int .i64 n.at')∧X.cell? ⟨w2.heap.size,2,none⟩=some (.string ⟨n.text.toArray⟩)) (first|go_keep|(refine⟨?_,?_⟩<;>rw[mc]<;>rfl)|exact False.elim hF.out) (first|(go_at_call 154;refine(dO _ _ _ (bY.fr (Fr.refl [] _).drew) iV).mono ?_;rintro e w4 ⟨b4,a4,rfl,rfl,fT,eY,hs4⟩;have JE:=(show au w3.drew _ _ _ from uO).fr eY (by simp;omega);obtain⟨mc,mz,zX,mb⟩:=JE.rules;have E8:=ny.drew.trans eY;have hw4:=eY.size)|(go_at_call 39;refine(aK _ _ _ _ _ ⟨_,_,_,rfl⟩).mono ?_;rintro e w9 ⟨rfl,rfl⟩)|(go_at_call 153;refine(Calls.zk (lU (fT.fr (((Fr.refl [] _).alloc _).alloc _)) hm)).mono ?_;rintro e w9 (⟨rfl,jC⟩|⟨rfl,hF⟩);exact⟨rfl,rfl,(E8.alloc _).alloc _ |>.trans jC⟩))
     exact False.elim hF.out
    | ok p =>
     obtain⟨T,JD⟩:=p
     go_enter Tryz.func103,Tryz.ntmps103
     go_wp2_with (first|(go_at_call 40;refine c1.mono ?_;rintro e w1 ⟨rfl,ha,aA,hf1,bK,hfA,jY,dV,hfB,hw1⟩;clear c1;obtain⟨kc,kz,aH,kb⟩:=aA.blk.rules)|(go_at_call 42;refine(gy bK hm2).mono ?_;rintro e w2 ⟨rfl,a2,rfl,aG,hf2⟩;clear hm2;have qj:=au.new w2 #[.int .i64 n.kind,.int .i64 n.at',.string ⟨n.text.toArray⟩,.int .i64 n.int,.int .u64 n.bits] 82;have hw2:=(hfA.trans hf2).size)|(go_at_call 43;refine(dZ (aG.fr ((Fr.refl [] _).alloc (aO n))) dH).mono ?_;rintro e w3 ⟨rfl,a3,rfl,bY,hf3⟩;clear dH;have uO:=qj.fr hf3 (by simp;omega);obtain⟨nc,nz,nN,nb⟩:=uO.rules;have ny:=((hfA.trans hf2).alloc (aO n)).trans hf3;have hw3:=ny.size))
     go_region_held2 (fun X=>X.cell? ⟨w2.heap.size,1,none⟩=some (.int .i64 n.at')∧X.cell? ⟨w2.heap.size,2,none⟩=some (.string ⟨n.text.toArray⟩)) (first|go_keep|(refine⟨?_,?_⟩<;>rw[mc]<;>rfl)|exact⟨he1,he2⟩) (first|(go_at_call 154;refine(dO _ _ _ (bY.fr (Fr.refl [] _).drew) iV).mono ?_;rintro e w4 ⟨b4,a4,rfl,rfl,fT,eY,hs4⟩;have JE:=(show au w3.drew _ _ _ from uO).fr eY (by simp;omega);obtain⟨mc,mz,zX,mb⟩:=JE.rules;have E8:=ny.drew.trans eY;have hw4:=eY.size)|(go_at_call 39;refine(aK _ _ _ _ _ ⟨_,_,_,rfl⟩).mono ?_;rintro e w9 ⟨rfl,rfl⟩)|(go_at_call 153;refine(lT (lo:=w.heap.size) (fT.fr (((Fr.refl [] _).alloc _).alloc _)) (by simpa[aj,ptrs,cZ,leaf] using(Kids.one (show Sp w4 w.heap.size w4.heap.size b4 E from hs4.wide (by simpa using hw3) (Nat.le_refl _)) (Nat.le_refl _)).made ⟨6,n.at',0,n.text,0,0⟩ 0 (by simp) E8.size) (by omega) (by simp) hm).mono ?_;rintro e w9 ⟨b9,a9,rfl,rfl,kF,jC,uN⟩;have hfz:=(((Fr.refl [] w4).alloc _).alloc _).nil.trans jC;have he1:=hfz.cell (show w4.cell? ⟨w2.heap.size,1,none⟩=some (.int .i64 n.at')by rw[mc];rfl) (by simp;omega);have he2:=hfz.cell (show w4.cell? ⟨w2.heap.size,2,none⟩=some (.string ⟨n.text.toArray⟩)by rw[mc];rfl) (by simp;omega)))
     go_wp2;go_ret;exact⟨b9,a9,rfl,rfl,kF,((E8.alloc _).alloc _).trans jC,uN⟩
   cases xi:t.text==[105,102]
   case true =>
    simp only[xl,xi,Bool.false_or,Bool.or_false,Bool.or_true,Bool.true_or,Bool.or_self,Bool.false_eq_true,if_false,if_true]at hm;cases res with
    | error f =>
     go_enter Tryz.func103,Tryz.ntmps103
     go_wp2_with (first|(go_at_call 40;refine c1.mono ?_;rintro e w1 ⟨rfl,ha,aA,hf1,bK,hfA,jY,dV,hfB,hw1⟩;clear c1;obtain⟨kc,kz,aH,kb⟩:=aA.blk.rules)|(go_at_call 155;refine(uL _ _ _ dV hm).mono ?_;rintro e w9 hO;obtain⟨rfl,jC⟩:=hO))
     exact⟨rfl,rfl,(hfB).trans jC⟩
    | ok p =>
     obtain⟨T,JD⟩:=p
     go_enter Tryz.func103,Tryz.ntmps103
     go_wp2_with (first|(go_at_call 40;refine c1.mono ?_;rintro e w1 ⟨rfl,ha,aA,hf1,bK,hfA,jY,dV,hfB,hw1⟩;clear c1;obtain⟨kc,kz,aH,kb⟩:=aA.blk.rules)|(go_at_call 155;refine(uL _ _ _ dV hm).mono ?_;rintro e w9 hO;obtain⟨b9,a9,rfl,rfl,kF,jC,uN⟩:=hO))
     go_ret;exact⟨b9,a9,rfl,rfl,kF,(hfB).trans jC,uN.wide (hfB).size (Nat.le_refl _)⟩
   cases xw:t.text==[119,104,105,108,101]
   case true =>
    simp only[xl,xi,xw,Bool.false_or,Bool.or_false,Bool.or_true,Bool.true_or,Bool.or_self,Bool.false_eq_true,if_false,if_true]at hm;cases res with
    | error f =>
     go_enter Tryz.func103,Tryz.ntmps103
     go_wp2_with (first|(go_at_call 40;refine c1.mono ?_;rintro e w1 ⟨rfl,ha,aA,hf1,bK,hfA,jY,dV,hfB,hw1⟩;clear c1;obtain⟨kc,kz,aH,kb⟩:=aA.blk.rules)|(go_at_call 151;refine(ihl none _ _ _ _ rfl dV hm).mono ?_;rintro e w9 hO;obtain⟨rfl,jC⟩:=hO))
     exact⟨rfl,rfl,(hfB).trans jC⟩
    | ok p =>
     obtain⟨T,JD⟩:=p
     go_enter Tryz.func103,Tryz.ntmps103
     go_wp2_with (first|(go_at_call 40;refine c1.mono ?_;rintro e w1 ⟨rfl,ha,aA,hf1,bK,hfA,jY,dV,hfB,hw1⟩;clear c1;obtain⟨kc,kz,aH,kb⟩:=aA.blk.rules)|(go_at_call 151;refine(ihl none _ _ _ _ rfl dV hm).mono ?_;rintro e w9 hO;obtain⟨b9,a9,rfl,rfl,kF,jC,uN⟩:=hO))
     go_ret;exact⟨b9,a9,rfl,rfl,kF,(hfB).trans jC,uN.wide (hfB).size (Nat.le_refl _)⟩
   cases xf:t.text==[102,111,114]
   case true =>
    simp only[xl,xi,xw,xf,Bool.false_or,Bool.or_false,Bool.or_true,Bool.true_or,Bool.or_self,Bool.false_eq_true,if_false,if_true]at hm;cases res with
    | error f =>
     go_enter Tryz.func103,Tryz.ntmps103
     go_wp2_with (first|(go_at_call 40;refine c1.mono ?_;rintro e w1 ⟨rfl,ha,aA,hf1,bK,hfA,jY,dV,hfB,hw1⟩;clear c1;obtain⟨kc,kz,aH,kb⟩:=aA.blk.rules)|(go_at_call 151;refine(ihl none _ _ _ _ rfl dV hm).mono ?_;rintro e w9 hO;obtain⟨rfl,jC⟩:=hO))
     exact⟨rfl,rfl,(hfB).trans jC⟩
    | ok p =>
     obtain⟨T,JD⟩:=p
     go_enter Tryz.func103,Tryz.ntmps103
     go_wp2_with (first|(go_at_call 40;refine c1.mono ?_;rintro e w1 ⟨rfl,ha,aA,hf1,bK,hfA,jY,dV,hfB,hw1⟩;clear c1;obtain⟨kc,kz,aH,kb⟩:=aA.blk.rules)|(go_at_call 151;refine(ihl none _ _ _ _ rfl dV hm).mono ?_;rintro e w9 hO;obtain⟨b9,a9,rfl,rfl,kF,jC,uN⟩:=hO))
     go_ret;exact⟨b9,a9,rfl,rfl,kF,(hfB).trans jC,uN.wide (hfB).size (Nat.le_refl _)⟩
   cases xb:t.text==[98,114,101,97,107]
   case true =>
    have xcf:(t.text==[99,111,110,116,105,110,117,101])=false:=by rw[beq_iff_eq.1 xb];rfl
    simp only[xl,xi,xw,xf,xb,xcf,Bool.false_or,Bool.or_false,Bool.or_true,Bool.true_or,Bool.or_self,Bool.false_eq_true,if_false,if_true]at hm;rw[bind_eq,P.bind,ni]at hm
    simp only at hm;have oD:=fun(W:World) (hW:PS S (a+1) W)=>hW.fr ((Fr.refl [] _).alloc (.cells (aj ⟨13,t.at',0,[],0,0⟩ 0 (.slice none 0 0)) 90))
    obtain⟨e,hm2,rfl⟩|⟨d,tL,hm2,hm⟩:=bind_some hm
    ·go_enter Tryz.func103,Tryz.ntmps103
     go_wp2_with (first|(go_at_call 40;refine c1.mono ?_;rintro e w1 ⟨rfl,ha,aA,hf1,bK,hfA,jY,dV,hfB,hw1⟩;clear c1;obtain⟨kc,kz,aH,kb⟩:=aA.blk.rules)|(go_at_call 39;refine(aK _ _ _ _ _ ⟨_,_,_,rfl⟩).mono ?_;rintro e w9 ⟨rfl,rfl⟩)|(go_at_call 40;refine(vN (oD _ bK) hm2).mono ?_;rintro e w2 ⟨rfl,hf2⟩))
     exact⟨rfl,rfl,(hfA.alloc (.cells (aj ⟨13,t.at',0,[],0,0⟩ 0 (.slice none 0 0)) 90)).trans hf2⟩
    have c2:=fun W (hW:PS S (a+1) W)=>look_ok hW hm2
    obtain rfl:tL=S.ts (a+1):=by rw[look_eq]at hm2;split at hm2<;>first|(cases hm2;rfl)|cases hm2
    clear hm2;cases xd:d.kind==1
    ·simp only[xd,Bool.false_eq_true,if_false,if_true]at hm;cases res with
     | error f =>
      go_enter Tryz.func103,Tryz.ntmps103
      go_wp2_with (first|(go_at_call 40;refine c1.mono ?_;rintro e w1 ⟨rfl,ha,aA,hf1,bK,hfA,jY,dV,hfB,hw1⟩;clear c1;obtain⟨kc,kz,aH,kb⟩:=aA.blk.rules)|(go_at_call 39;refine(aK _ _ _ _ _ ⟨_,_,_,rfl⟩).mono ?_;rintro e w9 ⟨rfl,rfl⟩)|(go_at_call 40;refine(c2 _ (oD _ bK)).mono ?_;rintro e w2 ⟨rfl,_,ha2,aG,hf2⟩;clear c2;have oZ:=hfA.size;have qj:=(au.new ((Ck.blk w1 S.bp #[S.vt,.int .i64 S.F.code,.int .i64 S.F.at',S.vo,.int .i64 ((a:Int)+1)] 77).alloc (aO t)) (aj ⟨13,t.at',0,[],0,0⟩ 0 (.slice none 0 0)) 90).fr hf2 (by simp);simp only[World.size_alloc,aB]at qj;have gK:=(hfA.alloc (.cells (aj ⟨13,t.at',0,[],0,0⟩ 0 (.slice none 0 0)) 90)).trans hf2.nil;have hw2:=hf2.size;simp only[World.size_alloc,aB]at hw2)|(go_at_call 153;refine(lU aG hm).mono ?_;rintro e w9 ⟨rfl,jC⟩))
      exact⟨rfl,rfl,(gK).trans jC⟩
     | ok p =>
      obtain⟨T,JD⟩:=p
      go_enter Tryz.func103,Tryz.ntmps103
      go_wp2_with (first|(go_at_call 40;refine c1.mono ?_;rintro e w1 ⟨rfl,ha,aA,hf1,bK,hfA,jY,dV,hfB,hw1⟩;clear c1;obtain⟨kc,kz,aH,kb⟩:=aA.blk.rules)|(go_at_call 39;refine(aK _ _ _ _ _ ⟨_,_,_,rfl⟩).mono ?_;rintro e w9 ⟨rfl,rfl⟩)|(go_at_call 40;refine(c2 _ (oD _ bK)).mono ?_;rintro e w2 ⟨rfl,_,ha2,aG,hf2⟩;clear c2;have oZ:=hfA.size;have qj:=(au.new ((Ck.blk w1 S.bp #[S.vt,.int .i64 S.F.code,.int .i64 S.F.at',S.vo,.int .i64 ((a:Int)+1)] 77).alloc (aO t)) (aj ⟨13,t.at',0,[],0,0⟩ 0 (.slice none 0 0)) 90).fr hf2 (by simp);simp only[World.size_alloc,aB]at qj;have gK:=(hfA.alloc (.cells (aj ⟨13,t.at',0,[],0,0⟩ 0 (.slice none 0 0)) 90)).trans hf2.nil;have hw2:=hf2.size;simp only[World.size_alloc,aB]at hw2)|(go_at_call 153;refine(lT (lo:=w.heap.size) aG (zl qj (by omega) qj.lt) (by omega) (Nat.le_refl _) hm).mono ?_;rintro e w9 ⟨b9,a9,rfl,rfl,kF,jC,uN⟩))
      go_ret;exact⟨b9,a9,rfl,rfl,kF,(gK).trans jC,uN⟩
    ·simp only[xd,if_true]at hm;obtain⟨e,dH,rfl⟩|⟨l,wR,dH,hm⟩:=bind_some hm
     ·go_enter Tryz.func103,Tryz.ntmps103
      go_wp2_with (first|(go_at_call 40;refine c1.mono ?_;rintro e w1 ⟨rfl,ha,aA,hf1,bK,hfA,jY,dV,hfB,hw1⟩;clear c1;obtain⟨kc,kz,aH,kb⟩:=aA.blk.rules)|(go_at_call 39;refine(aK _ _ _ _ _ ⟨_,_,_,rfl⟩).mono ?_;rintro e w9 ⟨rfl,rfl⟩)|(go_at_call 40;refine(c2 _ (oD _ bK)).mono ?_;rintro e w2 ⟨rfl,_,ha2,aG,hf2⟩;clear c2;have oZ:=hfA.size;have qj:=(au.new ((Ck.blk w1 S.bp #[S.vt,.int .i64 S.F.code,.int .i64 S.F.at',S.vo,.int .i64 ((a:Int)+1)] 77).alloc (aO t)) (aj ⟨13,t.at',0,[],0,0⟩ 0 (.slice none 0 0)) 90).fr hf2 (by simp);simp only[World.size_alloc,aB]at qj;have gK:=(hfA.alloc (.cells (aj ⟨13,t.at',0,[],0,0⟩ 0 (.slice none 0 0)) 90)).trans hf2.nil;have hw2:=hf2.size;simp only[World.size_alloc,aB]at hw2)|(go_at_call 42;refine(kX aG dH).mono ?_;rintro e w3 ⟨rfl,hf3⟩))
      exact⟨rfl,rfl,gK.trans hf3⟩
     cases res with
     | error f =>
      go_enter Tryz.func103,Tryz.ntmps103
      go_wp2_with (first|(go_at_call 40;refine c1.mono ?_;rintro e w1 ⟨rfl,ha,aA,hf1,bK,hfA,jY,dV,hfB,hw1⟩;clear c1;obtain⟨kc,kz,aH,kb⟩:=aA.blk.rules)|(go_at_call 39;refine(aK _ _ _ _ _ ⟨_,_,_,rfl⟩).mono ?_;rintro e w9 ⟨rfl,rfl⟩)|(go_at_call 40;refine(c2 _ (oD _ bK)).mono ?_;rintro e w2 ⟨rfl,_,ha2,aG,hf2⟩;clear c2;have oZ:=hfA.size;have qj:=(au.new ((Ck.blk w1 S.bp #[S.vt,.int .i64 S.F.code,.int .i64 S.F.at',S.vo,.int .i64 ((a:Int)+1)] 77).alloc (aO t)) (aj ⟨13,t.at',0,[],0,0⟩ 0 (.slice none 0 0)) 90).fr hf2 (by simp);simp only[World.size_alloc,aB]at qj;have gK:=(hfA.alloc (.cells (aj ⟨13,t.at',0,[],0,0⟩ 0 (.slice none 0 0)) 90)).trans hf2.nil;have hw2:=hf2.size;simp only[World.size_alloc,aB]at hw2)|(go_at_call 42;refine(gy aG dH).mono ?_;rintro e w3 ⟨rfl,a3,rfl,bY,hf3⟩;clear dH;have uO:=qj.fr hf3 (by simp;omega);obtain⟨nc,nz,nN,nb⟩:=uO.rules;simp only[aj]at nc nN;have ny:=gK.trans hf3;have hw3:=hf3.size)|(go_at_call 153;refine(lU (h.go (ny.blk (.inr (by omega)) _ _) (au.aL bY.blk (by omega)) bY.ha) hm).mono ?_;rintro e w9 ⟨rfl,jC⟩))
      exact⟨rfl,rfl,((ny.blk (.inr (by omega)) _ _)).trans jC⟩
     | ok p =>
      obtain⟨T,JD⟩:=p
      go_enter Tryz.func103,Tryz.ntmps103
      go_wp2_with (first|(go_at_call 40;refine c1.mono ?_;rintro e w1 ⟨rfl,ha,aA,hf1,bK,hfA,jY,dV,hfB,hw1⟩;clear c1;obtain⟨kc,kz,aH,kb⟩:=aA.blk.rules)|(go_at_call 39;refine(aK _ _ _ _ _ ⟨_,_,_,rfl⟩).mono ?_;rintro e w9 ⟨rfl,rfl⟩)|(go_at_call 40;refine(c2 _ (oD _ bK)).mono ?_;rintro e w2 ⟨rfl,_,ha2,aG,hf2⟩;clear c2;have oZ:=hfA.size;have qj:=(au.new ((Ck.blk w1 S.bp #[S.vt,.int .i64 S.F.code,.int .i64 S.F.at',S.vo,.int .i64 ((a:Int)+1)] 77).alloc (aO t)) (aj ⟨13,t.at',0,[],0,0⟩ 0 (.slice none 0 0)) 90).fr hf2 (by simp);simp only[World.size_alloc,aB]at qj;have gK:=(hfA.alloc (.cells (aj ⟨13,t.at',0,[],0,0⟩ 0 (.slice none 0 0)) 90)).trans hf2.nil;have hw2:=hf2.size;simp only[World.size_alloc,aB]at hw2)|(go_at_call 42;refine(gy aG dH).mono ?_;rintro e w3 ⟨rfl,a3,rfl,bY,hf3⟩;clear dH;have uO:=qj.fr hf3 (by simp;omega);obtain⟨nc,nz,nN,nb⟩:=uO.rules;simp only[aj]at nc nN;have ny:=gK.trans hf3;have hw3:=hf3.size)|(go_at_call 153;refine(lT (lo:=w.heap.size) (h.go (ny.blk (.inr (by omega)) _ _) (au.aL bY.blk (by omega)) bY.ha) (zl (hi:=w3.heap.size) (au.blk (by omega)) (by omega) (by omega)) (by omega) (by rw[aB];exact Nat.le_refl _) hm).mono ?_;rintro e w9 ⟨b9,a9,rfl,rfl,kF,jC,uN⟩))
      go_ret;exact⟨b9,a9,rfl,rfl,kF,((ny.blk (.inr (by omega)) _ _)).trans jC,uN⟩
   cases xc:t.text==[99,111,110,116,105,110,117,101]
   case true =>
    simp only[xl,xi,xw,xf,xb,xc,Bool.false_or,Bool.or_false,Bool.or_true,Bool.true_or,Bool.or_self,Bool.false_eq_true,if_false,if_true]at hm;rw[bind_eq,P.bind,ni]at hm
    simp only at hm;have oD:=fun(W:World) (hW:PS S (a+1) W)=>hW.fr ((Fr.refl [] _).alloc (.cells (aj ⟨14,t.at',0,[],0,0⟩ 0 (.slice none 0 0)) 90))
    obtain⟨e,hm2,rfl⟩|⟨d,tL,hm2,hm⟩:=bind_some hm
    ·go_enter Tryz.func103,Tryz.ntmps103
     go_wp2_with (first|(go_at_call 40;refine c1.mono ?_;rintro e w1 ⟨rfl,ha,aA,hf1,bK,hfA,jY,dV,hfB,hw1⟩;clear c1;obtain⟨kc,kz,aH,kb⟩:=aA.blk.rules)|(go_at_call 39;refine(aK _ _ _ _ _ ⟨_,_,_,rfl⟩).mono ?_;rintro e w9 ⟨rfl,rfl⟩)|(go_at_call 40;refine(vN (oD _ bK) hm2).mono ?_;rintro e w2 ⟨rfl,hf2⟩))
     exact⟨rfl,rfl,(hfA.alloc (.cells (aj ⟨14,t.at',0,[],0,0⟩ 0 (.slice none 0 0)) 90)).trans hf2⟩
    have c2:=fun W (hW:PS S (a+1) W)=>look_ok hW hm2
    obtain rfl:tL=S.ts (a+1):=by rw[look_eq]at hm2;split at hm2<;>first|(cases hm2;rfl)|cases hm2
    clear hm2;cases xd:d.kind==1
    ·simp only[xd,Bool.false_eq_true,if_false,if_true]at hm;cases res with
     | error f =>
      go_enter Tryz.func103,Tryz.ntmps103
      go_wp2_with (first|(go_at_call 40;refine c1.mono ?_;rintro e w1 ⟨rfl,ha,aA,hf1,bK,hfA,jY,dV,hfB,hw1⟩;clear c1;obtain⟨kc,kz,aH,kb⟩:=aA.blk.rules)|(go_at_call 39;refine(aK _ _ _ _ _ ⟨_,_,_,rfl⟩).mono ?_;rintro e w9 ⟨rfl,rfl⟩)|(go_at_call 40;refine(c2 _ (oD _ bK)).mono ?_;rintro e w2 ⟨rfl,_,ha2,aG,hf2⟩;clear c2;have oZ:=hfA.size;have qj:=(au.new ((Ck.blk w1 S.bp #[S.vt,.int .i64 S.F.code,.int .i64 S.F.at',S.vo,.int .i64 ((a:Int)+1)] 77).alloc (aO t)) (aj ⟨14,t.at',0,[],0,0⟩ 0 (.slice none 0 0)) 90).fr hf2 (by simp);simp only[World.size_alloc,aB]at qj;have gK:=(hfA.alloc (.cells (aj ⟨14,t.at',0,[],0,0⟩ 0 (.slice none 0 0)) 90)).trans hf2.nil;have hw2:=hf2.size;simp only[World.size_alloc,aB]at hw2)|(go_at_call 153;refine(lU aG hm).mono ?_;rintro e w9 ⟨rfl,jC⟩))
      exact⟨rfl,rfl,(gK).trans jC⟩
     | ok p =>
      obtain⟨T,JD⟩:=p
      go_enter Tryz.func103,Tryz.ntmps103
      go_wp2_with (first|(go_at_call 40;refine c1.mono ?_;rintro e w1 ⟨rfl,ha,aA,hf1,bK,hfA,jY,dV,hfB,hw1⟩;clear c1;obtain⟨kc,kz,aH,kb⟩:=aA.blk.rules)|(go_at_call 39;refine(aK _ _ _ _ _ ⟨_,_,_,rfl⟩).mono ?_;rintro e w9 ⟨rfl,rfl⟩)|(go_at_call 40;refine(c2 _ (oD _ bK)).mono ?_;rintro e w2 ⟨rfl,_,ha2,aG,hf2⟩;clear c2;have oZ:=hfA.size;have qj:=(au.new ((Ck.blk w1 S.bp #[S.vt,.int .i64 S.F.code,.int .i64 S.F.at',S.vo,.int .i64 ((a:Int)+1)] 77).alloc (aO t)) (aj ⟨14,t.at',0,[],0,0⟩ 0 (.slice none 0 0)) 90).fr hf2 (by simp);simp only[World.size_alloc,aB]at qj;have gK:=(hfA.alloc (.cells (aj ⟨14,t.at',0,[],0,0⟩ 0 (.slice none 0 0)) 90)).trans hf2.nil;have hw2:=hf2.size;simp only[World.size_alloc,aB]at hw2)|(go_at_call 153;refine(lT (lo:=w.heap.size) aG (zl qj (by omega) qj.lt) (by omega) (Nat.le_refl _) hm).mono ?_;rintro e w9 ⟨b9,a9,rfl,rfl,kF,jC,uN⟩))
      go_ret;exact⟨b9,a9,rfl,rfl,kF,(gK).trans jC,uN⟩
    ·simp only[xd,if_true]at hm;obtain⟨e,dH,rfl⟩|⟨l,wR,dH,hm⟩:=bind_some hm
     ·go_enter Tryz.func103,Tryz.ntmps103
      go_wp2_with (first|(go_at_call 40;refine c1.mono ?_;rintro e w1 ⟨rfl,ha,aA,hf1,bK,hfA,jY,dV,hfB,hw1⟩;clear c1;obtain⟨kc,kz,aH,kb⟩:=aA.blk.rules)|(go_at_call 39;refine(aK _ _ _ _ _ ⟨_,_,_,rfl⟩).mono ?_;rintro e w9 ⟨rfl,rfl⟩)|(go_at_call 40;refine(c2 _ (oD _ bK)).mono ?_;rintro e w2 ⟨rfl,_,ha2,aG,hf2⟩;clear c2;have oZ:=hfA.size;have qj:=(au.new ((Ck.blk w1 S.bp #[S.vt,.int .i64 S.F.code,.int .i64 S.F.at',S.vo,.int .i64 ((a:Int)+1)] 77).alloc (aO t)) (aj ⟨14,t.at',0,[],0,0⟩ 0 (.slice none 0 0)) 90).fr hf2 (by simp);simp only[World.size_alloc,aB]at qj;have gK:=(hfA.alloc (.cells (aj ⟨14,t.at',0,[],0,0⟩ 0 (.slice none 0 0)) 90)).trans hf2.nil;have hw2:=hf2.size;simp only[World.size_alloc,aB]at hw2)|(go_at_call 42;refine(kX aG dH).mono ?_;rintro e w3 ⟨rfl,hf3⟩))
      exact⟨rfl,rfl,gK.trans hf3⟩
     cases res with
     | error f =>
      go_enter Tryz.func103,Tryz.ntmps103
      go_wp2_with (first|(go_at_call 40;refine c1.mono ?_;rintro e w1 ⟨rfl,ha,aA,hf1,bK,hfA,jY,dV,hfB,hw1⟩;clear c1;obtain⟨kc,kz,aH,kb⟩:=aA.blk.rules)|(go_at_call 39;refine(aK _ _ _ _ _ ⟨_,_,_,rfl⟩).mono ?_;rintro e w9 ⟨rfl,rfl⟩)|(go_at_call 40;refine(c2 _ (oD _ bK)).mono ?_;rintro e w2 ⟨rfl,_,ha2,aG,hf2⟩;clear c2;have oZ:=hfA.size;have qj:=(au.new ((Ck.blk w1 S.bp #[S.vt,.int .i64 S.F.code,.int .i64 S.F.at',S.vo,.int .i64 ((a:Int)+1)] 77).alloc (aO t)) (aj ⟨14,t.at',0,[],0,0⟩ 0 (.slice none 0 0)) 90).fr hf2 (by simp);simp only[World.size_alloc,aB]at qj;have gK:=(hfA.alloc (.cells (aj ⟨14,t.at',0,[],0,0⟩ 0 (.slice none 0 0)) 90)).trans hf2.nil;have hw2:=hf2.size;simp only[World.size_alloc,aB]at hw2)|(go_at_call 42;refine(gy aG dH).mono ?_;rintro e w3 ⟨rfl,a3,rfl,bY,hf3⟩;clear dH;have uO:=qj.fr hf3 (by simp;omega);obtain⟨nc,nz,nN,nb⟩:=uO.rules;simp only[aj]at nc nN;have ny:=gK.trans hf3;have hw3:=hf3.size)|(go_at_call 153;refine(lU (h.go (ny.blk (.inr (by omega)) _ _) (au.aL bY.blk (by omega)) bY.ha) hm).mono ?_;rintro e w9 ⟨rfl,jC⟩))
      exact⟨rfl,rfl,((ny.blk (.inr (by omega)) _ _)).trans jC⟩
     | ok p =>
      obtain⟨T,JD⟩:=p
      go_enter Tryz.func103,Tryz.ntmps103
      go_wp2_with (first|(go_at_call 40;refine c1.mono ?_;rintro e w1 ⟨rfl,ha,aA,hf1,bK,hfA,jY,dV,hfB,hw1⟩;clear c1;obtain⟨kc,kz,aH,kb⟩:=aA.blk.rules)|(go_at_call 39;refine(aK _ _ _ _ _ ⟨_,_,_,rfl⟩).mono ?_;rintro e w9 ⟨rfl,rfl⟩)|(go_at_call 40;refine(c2 _ (oD _ bK)).mono ?_;rintro e w2 ⟨rfl,_,ha2,aG,hf2⟩;clear c2;have oZ:=hfA.size;have qj:=(au.new ((Ck.blk w1 S.bp #[S.vt,.int .i64 S.F.code,.int .i64 S.F.at',S.vo,.int .i64 ((a:Int)+1)] 77).alloc (aO t)) (aj ⟨14,t.at',0,[],0,0⟩ 0 (.slice none 0 0)) 90).fr hf2 (by simp);simp only[World.size_alloc,aB]at qj;have gK:=(hfA.alloc (.cells (aj ⟨14,t.at',0,[],0,0⟩ 0 (.slice none 0 0)) 90)).trans hf2.nil;have hw2:=hf2.size;simp only[World.size_alloc,aB]at hw2)|(go_at_call 42;refine(gy aG dH).mono ?_;rintro e w3 ⟨rfl,a3,rfl,bY,hf3⟩;clear dH;have uO:=qj.fr hf3 (by simp;omega);obtain⟨nc,nz,nN,nb⟩:=uO.rules;simp only[aj]at nc nN;have ny:=gK.trans hf3;have hw3:=hf3.size)|(go_at_call 153;refine(lT (lo:=w.heap.size) (h.go (ny.blk (.inr (by omega)) _ _) (au.aL bY.blk (by omega)) bY.ha) (zl (hi:=w3.heap.size) (au.blk (by omega)) (by omega) (by omega)) (by omega) (by rw[aB];exact Nat.le_refl _) hm).mono ?_;rintro e w9 ⟨b9,a9,rfl,rfl,kF,jC,uN⟩))
      go_ret;exact⟨b9,a9,rfl,rfl,kF,((ny.blk (.inr (by omega)) _ _)).trans jC,uN⟩
   cases xr:t.text==[114,101,116,117,114,110]
   case true =>
    simp only[xl,xi,xw,xf,xb,xc,xr,Bool.false_or,Bool.or_false,Bool.or_true,Bool.true_or,Bool.or_self,Bool.false_eq_true,if_false,if_true]at hm;rw[bind_eq,P.bind,ni]at hm
    simp only at hm;have oD:=fun(W:World) (hW:PS S (a+1) W)=>(hW.fr ((Fr.refl [] _).alloc (.cells (aj ⟨15,t.at',0,[],0,0⟩ 0 (.slice none 0 0)) 90))).fr ((Fr.refl [] _).alloc (.cells #[.string ⟨#[59]⟩] 9))
    have hv:∀W:World,bO (W.alloc (.cells #[.string ⟨#[59]⟩] 9)) (.slice (some ⟨W.heap.size,0,none⟩) 1 1) [[59]]:=fun W=>str1 W [59]
    obtain⟨e,hm2,rfl⟩|⟨q,tL,hm2,hm⟩:=bind_some hm
    ·go_enter Tryz.func103,Tryz.ntmps103
     go_wp2_with (first|(go_at_call 40;refine c1.mono ?_;rintro e w1 ⟨rfl,ha,aA,hf1,bK,hfA,jY,dV,hfB,hw1⟩;clear c1;obtain⟨kc,kz,aH,kb⟩:=aA.blk.rules)|(go_at_call 39;refine(aK _ _ _ _ _ ⟨_,_,_,rfl⟩).mono ?_;rintro e w9 ⟨rfl,rfl⟩)|(go_at_call 72;refine(mE (oD _ bK) (by simpa[aB,aO,aj]using hv (((Ck.blk w1 S.bp #[S.vt,.int .i64 S.F.code,.int .i64 S.F.at',S.vo,.int .i64 ((a:Int)+1)] 77).alloc (aO t)).alloc (.cells (aj ⟨15,t.at',0,[],0,0⟩ 0 (.slice none 0 0)) 90))) (by simp) hm2).mono ?_;rintro e w2 ⟨rfl,hf2⟩))
     exact⟨rfl,rfl,((hfA.alloc (.cells (aj ⟨15,t.at',0,[],0,0⟩ 0 (.slice none 0 0)) 90)).alloc (.cells #[.string ⟨#[59]⟩] 9)).trans hf2⟩
    have c2:=fun W v (hW:PS S (a+1) W) (hv:bO W v [[59]])=>iT hW hv (by simp) hm2
    obtain rfl:tL=S.ts (a+1):=by rw[vM]at hm2;split at hm2<;>first|(cases hm2;rfl)|cases hm2
    clear hm2;cases q
    ·simp only[Bool.false_eq_true,if_false]at hm;obtain⟨e,dH,rfl⟩|⟨E,wR,dH,hm⟩:=bind_some hm
     ·go_enter Tryz.func103,Tryz.ntmps103
      go_wp2_with (first|(go_at_call 40;refine c1.mono ?_;rintro e w1 ⟨rfl,ha,aA,hf1,bK,hfA,jY,dV,hfB,hw1⟩;clear c1;obtain⟨kc,kz,aH,kb⟩:=aA.blk.rules)|(go_at_call 39;refine(aK _ _ _ _ _ ⟨_,_,_,rfl⟩).mono ?_;rintro e w9 ⟨rfl,rfl⟩)|(go_at_call 72;refine(c2 _ _ (oD _ bK) (by simpa[aB,aO,aj]using hv (((Ck.blk w1 S.bp #[S.vt,.int .i64 S.F.code,.int .i64 S.F.at',S.vo,.int .i64 ((a:Int)+1)] 77).alloc (aO t)).alloc (.cells (aj ⟨15,t.at',0,[],0,0⟩ 0 (.slice none 0 0)) 90)))).mono ?_;rintro e w2 ⟨rfl,_,aG,hf2⟩;clear c2;have oZ:=hfA.size;have hG:=((Gr.new ((Ck.blk w1 S.bp #[S.vt,.int .i64 S.F.code,.int .i64 S.F.at',S.vo,.int .i64 ((a:Int)+1)] 77).alloc (aO t)) w.heap.size ⟨15,t.at',0,[],0,0⟩ oZ).fr ((Fr.refl [] _).alloc (.cells #[.string ⟨#[59]⟩] 9)) (by simp)).fr hf2 (by simp);simp only[World.size_alloc,aB]at hG;have gK:=((hfA.alloc (.cells (aj ⟨15,t.at',0,[],0,0⟩ 0 (.slice none 0 0)) 90)).alloc (.cells #[.string ⟨#[59]⟩] 9)).trans hf2.nil;have hw2:=hf2.size;simp only[World.size_alloc,aB]at hw2))
      have hf0:=gK;have bg:=aG;obtain⟨c,hc⟩:∃c,Hid (c=w1.heap.size+1):=⟨_,rfl⟩
      rw[←hc.out]at hG ⊢
      clear hc aG gK hf2 hw2 oZ bK hfA dV hfB aA hf1 oD kc kz aH kb jY hv;obtain⟨bs,hbs⟩:∃bs,Hid (bs=([]:List Nat)):=⟨_,rfl⟩
      obtain⟨vk,hvk⟩:∃vk:Value,Hid (vk=.slice none 0 0):=⟨_,rfl⟩
      rw[←hbs.out,←hvk.out]at hG
      clear hbs hvk;obtain⟨ks,hks⟩:∃ks,Hid (ks=([]:List Tree)):=⟨_,rfl⟩
      have hkl:ks.length≤8:=by rw[hks.out];simp
      rw[←hks.out]at hG
      have hbw:=hf0.size;obtain⟨kc,kz,aH,kb⟩:=hG.blk.rules
      simp only[aj]at kc aH
      go_region_dies
      all_goals (go_at_call 154;refine(dO _ _ _ (bg.fr (Fr.refl [] _).drew) dH).mono ?_;rintro e w3 ⟨rfl,hf3⟩)
      all_goals exact⟨rfl,rfl,(hf0.drew).trans hf3⟩
     cases res with
     | error f =>
      go_enter Tryz.func103,Tryz.ntmps103
      go_wp2_with (first|(go_at_call 40;refine c1.mono ?_;rintro e w1 ⟨rfl,ha,aA,hf1,bK,hfA,jY,dV,hfB,hw1⟩;clear c1;obtain⟨kc,kz,aH,kb⟩:=aA.blk.rules)|(go_at_call 39;refine(aK _ _ _ _ _ ⟨_,_,_,rfl⟩).mono ?_;rintro e w9 ⟨rfl,rfl⟩)|(go_at_call 72;refine(c2 _ _ (oD _ bK) (by simpa[aB,aO,aj]using hv (((Ck.blk w1 S.bp #[S.vt,.int .i64 S.F.code,.int .i64 S.F.at',S.vo,.int .i64 ((a:Int)+1)] 77).alloc (aO t)).alloc (.cells (aj ⟨15,t.at',0,[],0,0⟩ 0 (.slice none 0 0)) 90)))).mono ?_;rintro e w2 ⟨rfl,_,aG,hf2⟩;clear c2;have oZ:=hfA.size;have hG:=((Gr.new ((Ck.blk w1 S.bp #[S.vt,.int .i64 S.F.code,.int .i64 S.F.at',S.vo,.int .i64 ((a:Int)+1)] 77).alloc (aO t)) w.heap.size ⟨15,t.at',0,[],0,0⟩ oZ).fr ((Fr.refl [] _).alloc (.cells #[.string ⟨#[59]⟩] 9)) (by simp)).fr hf2 (by simp);simp only[World.size_alloc,aB]at hG;have gK:=((hfA.alloc (.cells (aj ⟨15,t.at',0,[],0,0⟩ 0 (.slice none 0 0)) 90)).alloc (.cells #[.string ⟨#[59]⟩] 9)).trans hf2.nil;have hw2:=hf2.size;simp only[World.size_alloc,aB]at hw2))
      have hf0:=gK;have bg:=aG;obtain⟨c,hc⟩:∃c,Hid (c=w1.heap.size+1):=⟨_,rfl⟩
      rw[←hc.out]at hG ⊢
      clear hc aG gK hf2 hw2 oZ bK hfA dV hfB aA hf1 oD kc kz aH kb jY hv;obtain⟨bs,hbs⟩:∃bs,Hid (bs=([]:List Nat)):=⟨_,rfl⟩
      obtain⟨vk,hvk⟩:∃vk:Value,Hid (vk=.slice none 0 0):=⟨_,rfl⟩
      rw[←hbs.out,←hvk.out]at hG
      clear hbs hvk;obtain⟨ks,hks⟩:∃ks,Hid (ks=([]:List Tree)):=⟨_,rfl⟩
      have hkl:ks.length≤8:=by rw[hks.out];simp
      rw[←hks.out]at hG
      have hbw:=hf0.size;obtain⟨kc,kz,aH,kb⟩:=hG.blk.rules
      simp only[aj]at kc aH
      go_region_law (first|(refine step_append_lies _ rfl _ _ 88 rfl (c+1) 55 i0 (.pointer none) 1 8 Tryz.underlying88 hi hz0 hz1 hz2 rfl (by decide) vk ks.length (ptrs bs) rfl (by exact aF hG3.row ((Fr.refl [] _).alloc _) (by simp)) ⟨w3.heap.size,0,none⟩ 1 1 [cZ b3] rfl rfl (World.news_of_block (au.new _ _ _)) (by simp[Value.oneCell',cZ]) (by omega) (by simp[maxLen];omega) (by omega) (by have:=hG3.blk.lt;simp;omega) _ rfl ?_;intro g' cap' w8 dw fO ig lI;obtain⟨qc,qz,bS,qb⟩:=((hG3.blk.alloc _).grown fO (fun e=>by have:=(hG3.row.lt _ e).1;omega)).rules;simp only[aj]at qc bS)|(go_simp;go_at_call 154;refine(dO _ _ _ (bg.fr (Fr.refl [] _).drew) dH).mono ?_;rintro e w3 ⟨b3,a3,rfl,rfl,bY,hf3,hs3⟩;have hG3:=(hG.fr (Fr.refl [] _).drew (by simp)).fr hf3 (by simp;omega);obtain⟨rc3,rz3,O5,rb3⟩:=hG3.blk.rules;simp only[aj]at rc3 O5;have hw3:=hf3.size))
      all_goals
       have hK:Kids w3 w2.heap.size [b3] [E]:=Kids.one (show Sp w3 w2.heap.size w3.heap.size b3 E from hs3) (Nat.le_refl _);obtain⟨q1,q2,q3⟩:=Gr.nG h hG hf0 (show Fr [S.bp] w2 w3 from(Fr.refl _ _).drew.trans hf3) bY hK dw fO ig
       have hs:=q3.sp;obtain⟨W3,hW3⟩:∃X,X=(Ck.blk w8 c (aj ⟨15,t.at',0,[],0,0⟩ 0 (.slice (some ⟨g',0,none⟩) (ks.length+[E].length) cap')) 90):=⟨_,rfl⟩
       rw[←hW3]at q1 q2 hs
       rw[hks.out]at hs
       simp only[aj,List.length_cons,List.length_nil,Nat.zero_add]at hW3;rw[←hW3];clear hW3
       go_wp2_with (go_at_call 153;refine(lU q1 hm).mono ?_;rintro e w9 ⟨rfl,jC⟩)
       exact⟨rfl,rfl,q2.trans jC⟩
     | ok p =>
      obtain⟨T,JD⟩:=p
      go_enter Tryz.func103,Tryz.ntmps103
      go_wp2_with (first|(go_at_call 40;refine c1.mono ?_;rintro e w1 ⟨rfl,ha,aA,hf1,bK,hfA,jY,dV,hfB,hw1⟩;clear c1;obtain⟨kc,kz,aH,kb⟩:=aA.blk.rules)|(go_at_call 39;refine(aK _ _ _ _ _ ⟨_,_,_,rfl⟩).mono ?_;rintro e w9 ⟨rfl,rfl⟩)|(go_at_call 72;refine(c2 _ _ (oD _ bK) (by simpa[aB,aO,aj]using hv (((Ck.blk w1 S.bp #[S.vt,.int .i64 S.F.code,.int .i64 S.F.at',S.vo,.int .i64 ((a:Int)+1)] 77).alloc (aO t)).alloc (.cells (aj ⟨15,t.at',0,[],0,0⟩ 0 (.slice none 0 0)) 90)))).mono ?_;rintro e w2 ⟨rfl,_,aG,hf2⟩;clear c2;have oZ:=hfA.size;have hG:=((Gr.new ((Ck.blk w1 S.bp #[S.vt,.int .i64 S.F.code,.int .i64 S.F.at',S.vo,.int .i64 ((a:Int)+1)] 77).alloc (aO t)) w.heap.size ⟨15,t.at',0,[],0,0⟩ oZ).fr ((Fr.refl [] _).alloc (.cells #[.string ⟨#[59]⟩] 9)) (by simp)).fr hf2 (by simp);simp only[World.size_alloc,aB]at hG;have gK:=((hfA.alloc (.cells (aj ⟨15,t.at',0,[],0,0⟩ 0 (.slice none 0 0)) 90)).alloc (.cells #[.string ⟨#[59]⟩] 9)).trans hf2.nil;have hw2:=hf2.size;simp only[World.size_alloc,aB]at hw2))
      have hf0:=gK;have bg:=aG;obtain⟨c,hc⟩:∃c,Hid (c=w1.heap.size+1):=⟨_,rfl⟩
      rw[←hc.out]at hG ⊢
      clear hc aG gK hf2 hw2 oZ bK hfA dV hfB aA hf1 oD kc kz aH kb jY hv;obtain⟨bs,hbs⟩:∃bs,Hid (bs=([]:List Nat)):=⟨_,rfl⟩
      obtain⟨vk,hvk⟩:∃vk:Value,Hid (vk=.slice none 0 0):=⟨_,rfl⟩
      rw[←hbs.out,←hvk.out]at hG
      clear hbs hvk;obtain⟨ks,hks⟩:∃ks,Hid (ks=([]:List Tree)):=⟨_,rfl⟩
      have hkl:ks.length≤8:=by rw[hks.out];simp
      rw[←hks.out]at hG
      have hbw:=hf0.size;obtain⟨kc,kz,aH,kb⟩:=hG.blk.rules
      simp only[aj]at kc aH
      go_region_law (first|(refine step_append_lies _ rfl _ _ 88 rfl (c+1) 55 i0 (.pointer none) 1 8 Tryz.underlying88 hi hz0 hz1 hz2 rfl (by decide) vk ks.length (ptrs bs) rfl (by exact aF hG3.row ((Fr.refl [] _).alloc _) (by simp)) ⟨w3.heap.size,0,none⟩ 1 1 [cZ b3] rfl rfl (World.news_of_block (au.new _ _ _)) (by simp[Value.oneCell',cZ]) (by omega) (by simp[maxLen];omega) (by omega) (by have:=hG3.blk.lt;simp;omega) _ rfl ?_;intro g' cap' w8 dw fO ig lI;obtain⟨qc,qz,bS,qb⟩:=((hG3.blk.alloc _).grown fO (fun e=>by have:=(hG3.row.lt _ e).1;omega)).rules;simp only[aj]at qc bS)|(go_simp;go_at_call 154;refine(dO _ _ _ (bg.fr (Fr.refl [] _).drew) dH).mono ?_;rintro e w3 ⟨b3,a3,rfl,rfl,bY,hf3,hs3⟩;have hG3:=(hG.fr (Fr.refl [] _).drew (by simp)).fr hf3 (by simp;omega);obtain⟨rc3,rz3,O5,rb3⟩:=hG3.blk.rules;simp only[aj]at rc3 O5;have hw3:=hf3.size))
      all_goals
       have hK:Kids w3 w2.heap.size [b3] [E]:=Kids.one (show Sp w3 w2.heap.size w3.heap.size b3 E from hs3) (Nat.le_refl _);obtain⟨q1,q2,q3⟩:=Gr.nG h hG hf0 (show Fr [S.bp] w2 w3 from(Fr.refl _ _).drew.trans hf3) bY hK dw fO ig
       have hs:=q3.sp;obtain⟨W3,hW3⟩:∃X,X=(Ck.blk w8 c (aj ⟨15,t.at',0,[],0,0⟩ 0 (.slice (some ⟨g',0,none⟩) (ks.length+[E].length) cap')) 90):=⟨_,rfl⟩
       rw[←hW3]at q1 q2 hs
       rw[hks.out]at hs
       simp only[aj,List.length_cons,List.length_nil,Nat.zero_add]at hW3;rw[←hW3];clear hW3
       go_wp2_with (go_at_call 153;refine(lT (lo:=w.heap.size) q1 hs (by omega) (Nat.le_refl _) hm).mono ?_;rintro e w9 ⟨b9,a9,rfl,rfl,kF,jC,uN⟩)
       go_ret;exact⟨b9,a9,rfl,rfl,kF,q2.trans jC,uN⟩
    ·simp only[if_true]at hm;cases res with
     | error f =>
      go_enter Tryz.func103,Tryz.ntmps103
      go_wp2_with (first|(go_at_call 40;refine c1.mono ?_;rintro e w1 ⟨rfl,ha,aA,hf1,bK,hfA,jY,dV,hfB,hw1⟩;clear c1;obtain⟨kc,kz,aH,kb⟩:=aA.blk.rules)|(go_at_call 39;refine(aK _ _ _ _ _ ⟨_,_,_,rfl⟩).mono ?_;rintro e w9 ⟨rfl,rfl⟩)|(go_at_call 72;refine(c2 _ _ (oD _ bK) (by simpa[aB,aO,aj]using hv (((Ck.blk w1 S.bp #[S.vt,.int .i64 S.F.code,.int .i64 S.F.at',S.vo,.int .i64 ((a:Int)+1)] 77).alloc (aO t)).alloc (.cells (aj ⟨15,t.at',0,[],0,0⟩ 0 (.slice none 0 0)) 90)))).mono ?_;rintro e w2 ⟨rfl,_,aG,hf2⟩;clear c2;have oZ:=hfA.size;have hG:=((Gr.new ((Ck.blk w1 S.bp #[S.vt,.int .i64 S.F.code,.int .i64 S.F.at',S.vo,.int .i64 ((a:Int)+1)] 77).alloc (aO t)) w.heap.size ⟨15,t.at',0,[],0,0⟩ oZ).fr ((Fr.refl [] _).alloc (.cells #[.string ⟨#[59]⟩] 9)) (by simp)).fr hf2 (by simp);simp only[World.size_alloc,aB]at hG;have gK:=((hfA.alloc (.cells (aj ⟨15,t.at',0,[],0,0⟩ 0 (.slice none 0 0)) 90)).alloc (.cells #[.string ⟨#[59]⟩] 9)).trans hf2.nil;have hw2:=hf2.size;simp only[World.size_alloc,aB]at hw2)|(go_at_call 153;refine(lU aG hm).mono ?_;rintro e w9 ⟨rfl,jC⟩))
      exact⟨rfl,rfl,(gK).trans jC⟩
     | ok p =>
      obtain⟨T,JD⟩:=p
      go_enter Tryz.func103,Tryz.ntmps103
      go_wp2_with (first|(go_at_call 40;refine c1.mono ?_;rintro e w1 ⟨rfl,ha,aA,hf1,bK,hfA,jY,dV,hfB,hw1⟩;clear c1;obtain⟨kc,kz,aH,kb⟩:=aA.blk.rules)|(go_at_call 39;refine(aK _ _ _ _ _ ⟨_,_,_,rfl⟩).mono ?_;rintro e w9 ⟨rfl,rfl⟩)|(go_at_call 72;refine(c2 _ _ (oD _ bK) (by simpa[aB,aO,aj]using hv (((Ck.blk w1 S.bp #[S.vt,.int .i64 S.F.code,.int .i64 S.F.at',S.vo,.int .i64 ((a:Int)+1)] 77).alloc (aO t)).alloc (.cells (aj ⟨15,t.at',0,[],0,0⟩ 0 (.slice none 0 0)) 90)))).mono ?_;rintro e w2 ⟨rfl,_,aG,hf2⟩;clear c2;have oZ:=hfA.size;have hG:=((Gr.new ((Ck.blk w1 S.bp #[S.vt,.int .i64 S.F.code,.int .i64 S.F.at',S.vo,.int .i64 ((a:Int)+1)] 77).alloc (aO t)) w.heap.size ⟨15,t.at',0,[],0,0⟩ oZ).fr ((Fr.refl [] _).alloc (.cells #[.string ⟨#[59]⟩] 9)) (by simp)).fr hf2 (by simp);simp only[World.size_alloc,aB]at hG;have gK:=((hfA.alloc (.cells (aj ⟨15,t.at',0,[],0,0⟩ 0 (.slice none 0 0)) 90)).alloc (.cells #[.string ⟨#[59]⟩] 9)).trans hf2.nil;have hw2:=hf2.size;simp only[World.size_alloc,aB]at hw2)|(go_at_call 153;refine(lT (lo:=w.heap.size) aG hG.sp (by omega) (Nat.le_refl _) hm).mono ?_;rintro e w9 ⟨b9,a9,rfl,rfl,kF,jC,uN⟩))
      go_ret;exact⟨b9,a9,rfl,rfl,kF,(gK).trans jC,uN⟩
   cases xo:t.text==[111,117,116]
   case true =>
    simp only[xl,xi,xw,xf,xb,xc,xr,xo,Bool.false_or,Bool.or_false,Bool.or_true,Bool.true_or,Bool.or_self,Bool.false_eq_true,if_false,if_true]at hm;rw[bind_eq,P.bind,ni]at hm
    simp only at hm;obtain⟨e,iV,rfl⟩|⟨E,Jy,iV,hm⟩:=bind_some hm
    ·go_enter Tryz.func103,Tryz.ntmps103
     go_wp2_with (first|(go_at_call 40;refine c1.mono ?_;rintro e w1 ⟨rfl,ha,aA,hf1,bK,hfA,jY,dV,hfB,hw1⟩;clear c1;obtain⟨kc,kz,aH,kb⟩:=aA.blk.rules))
     go_region_dies
     all_goals (go_at_call 154;refine(dO _ _ _ (bK.fr (Fr.refl [] _).drew) iV).mono ?_;rintro e w4 ⟨rfl,eY⟩)
     all_goals exact⟨rfl,rfl,(hfA.drew).trans eY⟩
    cases res with
    | error f =>
     go_enter Tryz.func103,Tryz.ntmps103
     go_wp2_with (first|(go_at_call 40;refine c1.mono ?_;rintro e w1 ⟨rfl,ha,aA,hf1,bK,hfA,jY,dV,hfB,hw1⟩;clear c1;obtain⟨kc,kz,aH,kb⟩:=aA.blk.rules))
     have O1:au ((Ck.blk w1 S.bp #[S.vt,.int .i64 S.F.code,.int .i64 S.F.at',S.vo,.int .i64 ((a:Int)+1)] 77).alloc (aO t)) w1.heap.size #[.int .i64 t.kind,.int .i64 t.at',.string ⟨t.text.toArray⟩,.int .i64 t.int,.int .u64 t.bits] 82:=by have:=au.new (Ck.blk w1 S.bp #[S.vt,.int .i64 S.F.code,.int .i64 S.F.at',S.vo,.int .i64 ((a:Int)+1)] 77) #[.int .i64 t.kind,.int .i64 t.at',.string ⟨t.text.toArray⟩,.int .i64 t.int,.int .u64 t.bits] 82;rwa [aB]at this
     have hT1:((Ck.blk w1 S.bp #[S.vt,.int .i64 S.F.code,.int .i64 S.F.at',S.vo,.int .i64 ((a:Int)+1)] 77).alloc (aO t)).cell? ⟨w1.heap.size,1,none⟩=some (.int .i64 t.at'):=by rw[O1.rules.1];rfl
     go_region_held2 (fun X=>X.cell? ⟨w1.heap.size,1,none⟩=some (.int .i64 t.at')) (first|go_keep|(rw[mc];rfl)|exact hT1|exact False.elim hF.out) (first|(go_at_call 154;refine(dO _ _ _ (bK.fr (Fr.refl [] _).drew) iV).mono ?_;rintro e w4 ⟨b4,a4,rfl,rfl,fT,eY,hs4⟩;have JE:=(show au ((Ck.blk w1 S.bp #[S.vt,.int .i64 S.F.code,.int .i64 S.F.at',S.vo,.int .i64 ((a:Int)+1)] 77).alloc (aO t)).drew _ _ _ from O1).fr eY (by simp;omega);obtain⟨mc,mz,zX,mb⟩:=JE.rules;have E8:=hfA.drew.trans eY;have hw4:=eY.size)|(go_at_call 39;refine(aK _ _ _ _ _ ⟨_,_,_,rfl⟩).mono ?_;rintro e w9 ⟨rfl,rfl⟩)|(go_at_call 153;refine(Calls.zk (lU (fT.fr (((Fr.refl [] _).alloc _).alloc _)) hm)).mono ?_;rintro e w9 (⟨rfl,jC⟩|⟨rfl,hF⟩);exact⟨rfl,rfl,(E8.alloc _).alloc _ |>.trans jC⟩))
     exact False.elim hF.out
    | ok p =>
     obtain⟨T,JD⟩:=p
     go_enter Tryz.func103,Tryz.ntmps103
     go_wp2_with (first|(go_at_call 40;refine c1.mono ?_;rintro e w1 ⟨rfl,ha,aA,hf1,bK,hfA,jY,dV,hfB,hw1⟩;clear c1;obtain⟨kc,kz,aH,kb⟩:=aA.blk.rules))
     have O1:au ((Ck.blk w1 S.bp #[S.vt,.int .i64 S.F.code,.int .i64 S.F.at',S.vo,.int .i64 ((a:Int)+1)] 77).alloc (aO t)) w1.heap.size #[.int .i64 t.kind,.int .i64 t.at',.string ⟨t.text.toArray⟩,.int .i64 t.int,.int .u64 t.bits] 82:=by have:=au.new (Ck.blk w1 S.bp #[S.vt,.int .i64 S.F.code,.int .i64 S.F.at',S.vo,.int .i64 ((a:Int)+1)] 77) #[.int .i64 t.kind,.int .i64 t.at',.string ⟨t.text.toArray⟩,.int .i64 t.int,.int .u64 t.bits] 82;rwa [aB]at this
     have hT1:((Ck.blk w1 S.bp #[S.vt,.int .i64 S.F.code,.int .i64 S.F.at',S.vo,.int .i64 ((a:Int)+1)] 77).alloc (aO t)).cell? ⟨w1.heap.size,1,none⟩=some (.int .i64 t.at'):=by rw[O1.rules.1];rfl
     go_region_held2 (fun X=>X.cell? ⟨w1.heap.size,1,none⟩=some (.int .i64 t.at')) (first|go_keep|(rw[mc];rfl)|exact hT1|exact he1) (first|(go_at_call 154;refine(dO _ _ _ (bK.fr (Fr.refl [] _).drew) iV).mono ?_;rintro e w4 ⟨b4,a4,rfl,rfl,fT,eY,hs4⟩;have JE:=(show au ((Ck.blk w1 S.bp #[S.vt,.int .i64 S.F.code,.int .i64 S.F.at',S.vo,.int .i64 ((a:Int)+1)] 77).alloc (aO t)).drew _ _ _ from O1).fr eY (by simp;omega);obtain⟨mc,mz,zX,mb⟩:=JE.rules;have E8:=hfA.drew.trans eY;have hw4:=eY.size)|(go_at_call 39;refine(aK _ _ _ _ _ ⟨_,_,_,rfl⟩).mono ?_;rintro e w9 ⟨rfl,rfl⟩)|(go_at_call 153;refine(lT (lo:=w.heap.size) (fT.fr (((Fr.refl [] _).alloc _).alloc _)) (by simpa[aj,ptrs,cZ,leaf] using(Kids.one (show Sp w4 w.heap.size w4.heap.size b4 E from hs4.wide (by simpa using hfA.size) (Nat.le_refl _)) (Nat.le_refl _)).made ⟨16,t.at',0,[],0,0⟩ 0 (by simp) E8.size) (by omega) (by simp) hm).mono ?_;rintro e w9 ⟨b9,a9,rfl,rfl,kF,jC,uN⟩;have hfz:=(((Fr.refl [] w4).alloc _).alloc _).nil.trans jC;have he1:=hfz.cell (show w4.cell? ⟨w1.heap.size,1,none⟩=some (.int .i64 t.at')by rw[mc];rfl) (by simp;omega)))
     go_wp2;go_ret;exact⟨b9,a9,rfl,rfl,kF,((E8.alloc _).alloc _).trans jC,uN⟩
   simp only[xl,xi,xw,xf,xb,xc,xr,xo,Bool.false_or,Bool.or_false,Bool.or_true,Bool.true_or,Bool.or_self,Bool.false_eq_true,if_false,if_true]at hm;cases res with
   | error f =>
    go_enter Tryz.func103,Tryz.ntmps103
    go_wp2_with (first|(go_at_call 40;refine c1.mono ?_;rintro e w1 ⟨rfl,ha,aA,hf1,bK,hfA,jY,dV,hfB,hw1⟩;clear c1;obtain⟨kc,kz,aH,kb⟩:=aA.blk.rules)|(go_at_call 152;refine(kR CU dO _ _ _ dV hm).mono ?_;rintro e w9 hO;obtain⟨rfl,jC⟩:=hO))
    exact⟨rfl,rfl,(hfB).trans jC⟩
   | ok p =>
    obtain⟨T,JD⟩:=p
    go_enter Tryz.func103,Tryz.ntmps103
    go_wp2_with (first|(go_at_call 40;refine c1.mono ?_;rintro e w1 ⟨rfl,ha,aA,hf1,bK,hfA,jY,dV,hfB,hw1⟩;clear c1;obtain⟨kc,kz,aH,kb⟩:=aA.blk.rules)|(go_at_call 152;refine(kR CU dO _ _ _ dV hm).mono ?_;rintro e w9 hO;obtain⟨b9,a9,rfl,rfl,kF,jC,uN⟩:=hO))
    go_ret;exact⟨b9,a9,rfl,rfl,kF,(hfB).trans jC,uN.wide (hfB).size (Nat.le_refl _)⟩
 ·have h2:(t.kind==2)=false:=by rw[beq_iff_eq.1 h1];rfl
  have h2':(t.kind != 2)=true:=by rw[bne,h2];rfl
  simp only[h1,h2,Bool.false_eq_true,if_false,if_true]at hm;obtain⟨e,hm2,rfl⟩|⟨q,tL,hm2,hm⟩:=bind_some hm
  ·obtain⟨e,dH,h0⟩|⟨d,wR,_,h0⟩:=bind_some hm2
   ·cases h0;go_enter Tryz.func103,Tryz.ntmps103
    go_wp2_with (first|(go_at_call 40;refine c1.mono ?_;rintro e w1 ⟨rfl,ha,aA,hf1,bK,hfA,jY,dV,hfB,hw1⟩;clear c1;obtain⟨kc,kz,aH,kb⟩:=aA.blk.rules)|(go_at_call 40;refine(OY dV dH).mono ?_;rintro e w2 ⟨rfl,hf2⟩))
    exact⟨rfl,rfl,hfB.trans hf2⟩
   ·cases h0
  obtain⟨e,_,h0⟩|⟨d,wR,dH,h0⟩:=bind_some hm2
  ·cases h0
  rw[aZ]at h0
  simp only[Option.some.injEq,Except.ok.injEq,Prod.mk.injEq]at h0;obtain⟨rfl,rfl⟩:=h0
  have c2:=fun W (hW:PS S a W)=>OX hW dH
  obtain rfl:wR=S.ts a:=by unfold og at dH;split at dH<;>first|(cases dH;rfl)|cases dH
  clear dH hm2;cases x3:d.kind==3
  ·simp only[x3,Bool.false_and,Bool.false_eq_true,if_false]at hm;cases res with
   | error f =>
    go_enter Tryz.func103,Tryz.ntmps103
    go_wp2_with (first|(go_at_call 40;refine c1.mono ?_;rintro e w1 ⟨rfl,ha,aA,hf1,bK,hfA,jY,dV,hfB,hw1⟩;clear c1;obtain⟨kc,kz,aH,kb⟩:=aA.blk.rules)|(go_at_call 40;refine(c2 _ dV).mono ?_;rintro e w2 ⟨rfl,_,ha2,aG,hf2⟩;clear c2;have DN:=hfB.trans hf2.nil;have qj:=((au.new w1 #[.int .i64 t.kind,.int .i64 t.at',.string ⟨t.text.toArray⟩,.int .i64 t.int,.int .u64 t.bits] 82).fr hf2 (by simp)).alloc (aO d);obtain⟨nc,nz,nN,nb⟩:=((au.new w1 #[.int .i64 t.kind,.int .i64 t.at',.string ⟨t.text.toArray⟩,.int .i64 t.int,.int .u64 t.bits] 82).fr hf2 (by simp)).rules;obtain⟨rc,rz,bE,rb⟩:=aG.blk.rules;have O6:∀k,S.bp<w2.heap.size+k:=(fun k=>by omega);have hw2:=hf2.size;simp only[World.size_alloc]at hw2)|(go_at_call 152;refine(kR CU dO _ _ _ (aG.fr ((Fr.refl [] _).alloc (aO d))) hm).mono ?_;rintro e w9 hO;obtain⟨rfl,jC⟩:=hO))
    exact⟨rfl,rfl,((DN.alloc (aO d))).trans jC⟩
   | ok p =>
    obtain⟨T,JD⟩:=p
    go_enter Tryz.func103,Tryz.ntmps103
    go_wp2_with (first|(go_at_call 40;refine c1.mono ?_;rintro e w1 ⟨rfl,ha,aA,hf1,bK,hfA,jY,dV,hfB,hw1⟩;clear c1;obtain⟨kc,kz,aH,kb⟩:=aA.blk.rules)|(go_at_call 40;refine(c2 _ dV).mono ?_;rintro e w2 ⟨rfl,_,ha2,aG,hf2⟩;clear c2;have DN:=hfB.trans hf2.nil;have qj:=((au.new w1 #[.int .i64 t.kind,.int .i64 t.at',.string ⟨t.text.toArray⟩,.int .i64 t.int,.int .u64 t.bits] 82).fr hf2 (by simp)).alloc (aO d);obtain⟨nc,nz,nN,nb⟩:=((au.new w1 #[.int .i64 t.kind,.int .i64 t.at',.string ⟨t.text.toArray⟩,.int .i64 t.int,.int .u64 t.bits] 82).fr hf2 (by simp)).rules;obtain⟨rc,rz,bE,rb⟩:=aG.blk.rules;have O6:∀k,S.bp<w2.heap.size+k:=(fun k=>by omega);have hw2:=hf2.size;simp only[World.size_alloc]at hw2)|(go_at_call 152;refine(kR CU dO _ _ _ (aG.fr ((Fr.refl [] _).alloc (aO d))) hm).mono ?_;rintro e w9 hO;obtain⟨b9,a9,rfl,rfl,kF,jC,uN⟩:=hO))
    go_ret;exact⟨b9,a9,rfl,rfl,kF,((DN.alloc (aO d))).trans jC,uN.wide ((DN.alloc (aO d))).size (Nat.le_refl _)⟩
  cases x5:d.text==[58]
  ·simp only[x3,x5,Bool.and_false,Bool.false_eq_true,if_false]at hm;cases res with
   | error f =>
    go_enter Tryz.func103,Tryz.ntmps103
    go_wp2_with (first|(go_at_call 40;refine c1.mono ?_;rintro e w1 ⟨rfl,ha,aA,hf1,bK,hfA,jY,dV,hfB,hw1⟩;clear c1;obtain⟨kc,kz,aH,kb⟩:=aA.blk.rules)|(go_at_call 40;refine(c2 _ dV).mono ?_;rintro e w2 ⟨rfl,_,ha2,aG,hf2⟩;clear c2;have DN:=hfB.trans hf2.nil;have qj:=((au.new w1 #[.int .i64 t.kind,.int .i64 t.at',.string ⟨t.text.toArray⟩,.int .i64 t.int,.int .u64 t.bits] 82).fr hf2 (by simp)).alloc (aO d);obtain⟨nc,nz,nN,nb⟩:=((au.new w1 #[.int .i64 t.kind,.int .i64 t.at',.string ⟨t.text.toArray⟩,.int .i64 t.int,.int .u64 t.bits] 82).fr hf2 (by simp)).rules;obtain⟨rc,rz,bE,rb⟩:=aG.blk.rules;have O6:∀k,S.bp<w2.heap.size+k:=(fun k=>by omega);have hw2:=hf2.size;simp only[World.size_alloc]at hw2)|(go_at_call 152;refine(kR CU dO _ _ _ (aG.fr ((Fr.refl [] _).alloc (aO d))) hm).mono ?_;rintro e w9 hO;obtain⟨rfl,jC⟩:=hO))
    exact⟨rfl,rfl,((DN.alloc (aO d))).trans jC⟩
   | ok p =>
    obtain⟨T,JD⟩:=p
    go_enter Tryz.func103,Tryz.ntmps103
    go_wp2_with (first|(go_at_call 40;refine c1.mono ?_;rintro e w1 ⟨rfl,ha,aA,hf1,bK,hfA,jY,dV,hfB,hw1⟩;clear c1;obtain⟨kc,kz,aH,kb⟩:=aA.blk.rules)|(go_at_call 40;refine(c2 _ dV).mono ?_;rintro e w2 ⟨rfl,_,ha2,aG,hf2⟩;clear c2;have DN:=hfB.trans hf2.nil;have qj:=((au.new w1 #[.int .i64 t.kind,.int .i64 t.at',.string ⟨t.text.toArray⟩,.int .i64 t.int,.int .u64 t.bits] 82).fr hf2 (by simp)).alloc (aO d);obtain⟨nc,nz,nN,nb⟩:=((au.new w1 #[.int .i64 t.kind,.int .i64 t.at',.string ⟨t.text.toArray⟩,.int .i64 t.int,.int .u64 t.bits] 82).fr hf2 (by simp)).rules;obtain⟨rc,rz,bE,rb⟩:=aG.blk.rules;have O6:∀k,S.bp<w2.heap.size+k:=(fun k=>by omega);have hw2:=hf2.size;simp only[World.size_alloc]at hw2)|(go_at_call 152;refine(kR CU dO _ _ _ (aG.fr ((Fr.refl [] _).alloc (aO d))) hm).mono ?_;rintro e w9 hO;obtain⟨b9,a9,rfl,rfl,kF,jC,uN⟩:=hO))
    go_ret;exact⟨b9,a9,rfl,rfl,kF,((DN.alloc (aO d))).trans jC,uN.wide ((DN.alloc (aO d))).size (Nat.le_refl _)⟩
  simp only[x3,x5,Bool.and_self,if_true]at hm;rw[bind_eq,P.bind,ni]at hm
  simp only at hm;rw[bind_eq,P.bind,ni]at hm
  simp only at hm;have hv:∀W:World,bO (W.alloc (.cells #[.string ⟨#[119,104,105,108,101]⟩,.string ⟨#[102,111,114]⟩] 9)) (.slice (some ⟨W.heap.size,0,none⟩) 2 2) [[119,104,105,108,101],[102,111,114]]:=fun W=>Rx W [[119,104,105,108,101],[102,111,114]]
  obtain⟨e,iV,rfl⟩|⟨q,Jy,iV,hm⟩:=bind_some hm
  ·go_enter Tryz.func103,Tryz.ntmps103
   go_wp2_with (first|(go_at_call 40;refine c1.mono ?_;rintro e w1 ⟨rfl,ha,aA,hf1,bK,hfA,jY,dV,hfB,hw1⟩;clear c1;obtain⟨kc,kz,aH,kb⟩:=aA.blk.rules)|(go_at_call 40;refine(c2 _ dV).mono ?_;rintro e w2 ⟨rfl,_,ha2,aG,hf2⟩;clear c2;have DN:=hfB.trans hf2.nil;have qj:=((au.new w1 #[.int .i64 t.kind,.int .i64 t.at',.string ⟨t.text.toArray⟩,.int .i64 t.int,.int .u64 t.bits] 82).fr hf2 (by simp)).alloc (aO d);obtain⟨nc,nz,nN,nb⟩:=((au.new w1 #[.int .i64 t.kind,.int .i64 t.at',.string ⟨t.text.toArray⟩,.int .i64 t.int,.int .u64 t.bits] 82).fr hf2 (by simp)).rules;obtain⟨rc,rz,bE,rb⟩:=aG.blk.rules;have O6:∀k,S.bp<w2.heap.size+k:=(fun k=>by omega);have hw2:=hf2.size;simp only[World.size_alloc]at hw2;have bY:PS S (a+1+1) (Ck.blk w2 S.bp #[S.vt,.int .i64 S.F.code,.int .i64 S.F.at',S.vo,.int .i64 ((a:Int)+2)] 77):=aG.go (w':=(Ck.blk w2 S.bp #[S.vt,.int .i64 S.F.code,.int .i64 S.F.at',S.vo,.int .i64 ((a:Int)+2)] 77)) ((Fr.refl _ _).blk (by simp) _ _) (au.blk aG.blk.lt) ha2;have fT:=(bY.fr ((Fr.refl [] _).alloc (aO d))).fr ((Fr.refl [] _).alloc (.cells #[.string ⟨#[119,104,105,108,101]⟩,.string ⟨#[102,111,114]⟩] 9));have eY:=((DN.blk (b:=S.bp) (.inl (by simp)) #[S.vt,.int .i64 S.F.code,.int .i64 S.F.at',S.vo,.int .i64 ((a:Int)+2)] 77).alloc (aO d)).alloc (.cells #[.string ⟨#[119,104,105,108,101]⟩,.string ⟨#[102,111,114]⟩] 9))|(go_at_call 72;refine(mE fT (by simpa[aB,aO]using hv ((Ck.blk w2 S.bp #[S.vt,.int .i64 S.F.code,.int .i64 S.F.at',S.vo,.int .i64 ((a:Int)+2)] 77).alloc (aO d))) (by simp) iV).mono ?_;rintro e w5 ⟨rfl,fF⟩))
   exact⟨rfl,rfl,eY.trans fF⟩
  have e4:Jy=S.ts (a+1+1):=by rw[vM]at iV;split at iV<;>first|(cases iV;rfl)|cases iV
  subst e4;cases q
  ·simp only[Bool.false_eq_true,if_false]at hm;obtain⟨f,rfl,cw⟩:=qo hm
   clear hm;go_enter Tryz.func103,Tryz.ntmps103
   go_wp2_with (first|(go_at_call 40;refine c1.mono ?_;rintro e w1 ⟨rfl,ha,aA,hf1,bK,hfA,jY,dV,hfB,hw1⟩;clear c1;obtain⟨kc,kz,aH,kb⟩:=aA.blk.rules)|(go_at_call 40;refine(c2 _ dV).mono ?_;rintro e w2 ⟨rfl,_,ha2,aG,hf2⟩;clear c2;have DN:=hfB.trans hf2.nil;have qj:=((au.new w1 #[.int .i64 t.kind,.int .i64 t.at',.string ⟨t.text.toArray⟩,.int .i64 t.int,.int .u64 t.bits] 82).fr hf2 (by simp)).alloc (aO d);obtain⟨nc,nz,nN,nb⟩:=((au.new w1 #[.int .i64 t.kind,.int .i64 t.at',.string ⟨t.text.toArray⟩,.int .i64 t.int,.int .u64 t.bits] 82).fr hf2 (by simp)).rules;obtain⟨rc,rz,bE,rb⟩:=aG.blk.rules;have O6:∀k,S.bp<w2.heap.size+k:=(fun k=>by omega);have hw2:=hf2.size;simp only[World.size_alloc]at hw2;have bY:PS S (a+1+1) (Ck.blk w2 S.bp #[S.vt,.int .i64 S.F.code,.int .i64 S.F.at',S.vo,.int .i64 ((a:Int)+2)] 77):=aG.go (w':=(Ck.blk w2 S.bp #[S.vt,.int .i64 S.F.code,.int .i64 S.F.at',S.vo,.int .i64 ((a:Int)+2)] 77)) ((Fr.refl _ _).blk (by simp) _ _) (au.blk aG.blk.lt) ha2;have fT:=(bY.fr ((Fr.refl [] _).alloc (aO d))).fr ((Fr.refl [] _).alloc (.cells #[.string ⟨#[119,104,105,108,101]⟩,.string ⟨#[102,111,114]⟩] 9));have eY:=((DN.blk (b:=S.bp) (.inl (by simp)) #[S.vt,.int .i64 S.F.code,.int .i64 S.F.at',S.vo,.int .i64 ((a:Int)+2)] 77).alloc (aO d)).alloc (.cells #[.string ⟨#[119,104,105,108,101]⟩,.string ⟨#[102,111,114]⟩] 9))|(go_at_call 72;refine(iT fT (by simpa[aB,aO]using hv ((Ck.blk w2 S.bp #[S.vt,.int .i64 S.F.code,.int .i64 S.F.at',S.vo,.int .i64 ((a:Int)+2)] 77).alloc (aO d))) (by simp) iV).mono ?_;rintro e w5 ⟨rfl,_,ng,fF⟩;have ML:=eY.trans fF.nil)|(go_at_call 45;refine(cw _ _ rfl ng).mono ?_;rintro e w8 ⟨rfl,vO⟩))
   exact⟨rfl,rfl,(ML).trans vO⟩
  ·simp only[if_true]at hm;cases res with
   | error f =>
    go_enter Tryz.func103,Tryz.ntmps103
    go_wp2_with (first|(go_at_call 40;refine c1.mono ?_;rintro e w1 ⟨rfl,ha,aA,hf1,bK,hfA,jY,dV,hfB,hw1⟩;clear c1;obtain⟨kc,kz,aH,kb⟩:=aA.blk.rules)|(go_at_call 40;refine(c2 _ dV).mono ?_;rintro e w2 ⟨rfl,_,ha2,aG,hf2⟩;clear c2;have DN:=hfB.trans hf2.nil;have qj:=((au.new w1 #[.int .i64 t.kind,.int .i64 t.at',.string ⟨t.text.toArray⟩,.int .i64 t.int,.int .u64 t.bits] 82).fr hf2 (by simp)).alloc (aO d);obtain⟨nc,nz,nN,nb⟩:=((au.new w1 #[.int .i64 t.kind,.int .i64 t.at',.string ⟨t.text.toArray⟩,.int .i64 t.int,.int .u64 t.bits] 82).fr hf2 (by simp)).rules;obtain⟨rc,rz,bE,rb⟩:=aG.blk.rules;have O6:∀k,S.bp<w2.heap.size+k:=(fun k=>by omega);have hw2:=hf2.size;simp only[World.size_alloc]at hw2;have bY:PS S (a+1+1) (Ck.blk w2 S.bp #[S.vt,.int .i64 S.F.code,.int .i64 S.F.at',S.vo,.int .i64 ((a:Int)+2)] 77):=aG.go (w':=(Ck.blk w2 S.bp #[S.vt,.int .i64 S.F.code,.int .i64 S.F.at',S.vo,.int .i64 ((a:Int)+2)] 77)) ((Fr.refl _ _).blk (by simp) _ _) (au.blk aG.blk.lt) ha2;have fT:=(bY.fr ((Fr.refl [] _).alloc (aO d))).fr ((Fr.refl [] _).alloc (.cells #[.string ⟨#[119,104,105,108,101]⟩,.string ⟨#[102,111,114]⟩] 9));have eY:=((DN.blk (b:=S.bp) (.inl (by simp)) #[S.vt,.int .i64 S.F.code,.int .i64 S.F.at',S.vo,.int .i64 ((a:Int)+2)] 77).alloc (aO d)).alloc (.cells #[.string ⟨#[119,104,105,108,101]⟩,.string ⟨#[102,111,114]⟩] 9))|(go_at_call 72;refine(iT fT (by simpa[aB,aO]using hv ((Ck.blk w2 S.bp #[S.vt,.int .i64 S.F.code,.int .i64 S.F.at',S.vo,.int .i64 ((a:Int)+2)] 77).alloc (aO d))) (by simp) iV).mono ?_;rintro e w5 ⟨rfl,_,ng,fF⟩;clear iV;have ML:=eY.trans fF.nil;have hL:EX S w5 (.pointer (some ⟨w1.heap.size,0,none⟩)) (some t):=⟨_,rfl,((au.aL ((au.new w1 #[.int .i64 t.kind,.int .i64 t.at',.string ⟨t.text.toArray⟩,.int .i64 t.int,.int .u64 t.bits] 82).fr hf2 (by simp)) (by omega) |>.alloc (aO d)).alloc (.cells #[.string ⟨#[119,104,105,108,101]⟩,.string ⟨#[102,111,114]⟩] 9)).fr fF (by simp),by omega⟩)|(go_at_call 151;refine(ihl (some t) _ _ _ _ hL ng hm).mono ?_;rintro e w9 hO;obtain⟨rfl,jC⟩:=hO))
    exact⟨rfl,rfl,(ML).trans jC⟩
   | ok p =>
    obtain⟨T,JD⟩:=p
    go_enter Tryz.func103,Tryz.ntmps103
    go_wp2_with (first|(go_at_call 40;refine c1.mono ?_;rintro e w1 ⟨rfl,ha,aA,hf1,bK,hfA,jY,dV,hfB,hw1⟩;clear c1;obtain⟨kc,kz,aH,kb⟩:=aA.blk.rules)|(go_at_call 40;refine(c2 _ dV).mono ?_;rintro e w2 ⟨rfl,_,ha2,aG,hf2⟩;clear c2;have DN:=hfB.trans hf2.nil;have qj:=((au.new w1 #[.int .i64 t.kind,.int .i64 t.at',.string ⟨t.text.toArray⟩,.int .i64 t.int,.int .u64 t.bits] 82).fr hf2 (by simp)).alloc (aO d);obtain⟨nc,nz,nN,nb⟩:=((au.new w1 #[.int .i64 t.kind,.int .i64 t.at',.string ⟨t.text.toArray⟩,.int .i64 t.int,.int .u64 t.bits] 82).fr hf2 (by simp)).rules;obtain⟨rc,rz,bE,rb⟩:=aG.blk.rules;have O6:∀k,S.bp<w2.heap.size+k:=(fun k=>by omega);have hw2:=hf2.size;simp only[World.size_alloc]at hw2;have bY:PS S (a+1+1) (Ck.blk w2 S.bp #[S.vt,.int .i64 S.F.code,.int .i64 S.F.at',S.vo,.int .i64 ((a:Int)+2)] 77):=aG.go (w':=(Ck.blk w2 S.bp #[S.vt,.int .i64 S.F.code,.int .i64 S.F.at',S.vo,.int .i64 ((a:Int)+2)] 77)) ((Fr.refl _ _).blk (by simp) _ _) (au.blk aG.blk.lt) ha2;have fT:=(bY.fr ((Fr.refl [] _).alloc (aO d))).fr ((Fr.refl [] _).alloc (.cells #[.string ⟨#[119,104,105,108,101]⟩,.string ⟨#[102,111,114]⟩] 9));have eY:=((DN.blk (b:=S.bp) (.inl (by simp)) #[S.vt,.int .i64 S.F.code,.int .i64 S.F.at',S.vo,.int .i64 ((a:Int)+2)] 77).alloc (aO d)).alloc (.cells #[.string ⟨#[119,104,105,108,101]⟩,.string ⟨#[102,111,114]⟩] 9))|(go_at_call 72;refine(iT fT (by simpa[aB,aO]using hv ((Ck.blk w2 S.bp #[S.vt,.int .i64 S.F.code,.int .i64 S.F.at',S.vo,.int .i64 ((a:Int)+2)] 77).alloc (aO d))) (by simp) iV).mono ?_;rintro e w5 ⟨rfl,_,ng,fF⟩;clear iV;have ML:=eY.trans fF.nil;have hL:EX S w5 (.pointer (some ⟨w1.heap.size,0,none⟩)) (some t):=⟨_,rfl,((au.aL ((au.new w1 #[.int .i64 t.kind,.int .i64 t.at',.string ⟨t.text.toArray⟩,.int .i64 t.int,.int .u64 t.bits] 82).fr hf2 (by simp)) (by omega) |>.alloc (aO d)).alloc (.cells #[.string ⟨#[119,104,105,108,101]⟩,.string ⟨#[102,111,114]⟩] 9)).fr fF (by simp),by omega⟩)|(go_at_call 151;refine(ihl (some t) _ _ _ _ hL ng hm).mono ?_;rintro e w9 hO;obtain⟨b9,a9,rfl,rfl,kF,jC,uN⟩:=hO))
    go_ret;exact⟨b9,a9,rfl,rfl,kF,(ML).trans jC,uN.wide (ML).size (Nat.le_refl _)⟩
end Go.Proofs.YtoomapkcoibmhaaGreatDoor
end
