/- A part of the proof. -/
import Derived.Deep.RegionHeld2
import Derived.Test.YtoomapkcoibmhaaGreatDoorQ15
set_option maxRecDepth 100000
set_option maxHeartbeats 12800000
set_option linter.all false
section
open Go Go.Proofs Go.RowKit Go.Shelf Ck
namespace Go.Proofs.YtoomapkcoibmhaaGreatDoor
theorem Sp.open {w:World} {lo hi b:Nat} {n:Ck.Node} {ks:List Tree} (h:Sp w lo hi b (.mk n ks)):∃(z:Int) (vk:Value) (bs:List Nat),au w b (aj n z vk) 90∧w.ownsRow lo 55 1 vk ks.length (ptrs bs) ∧
   (∀g,vk.ownBlock=some g→g<hi)∧iw w lo hi b vk.ownBlock bs ks:=by
 simp only[Sp]at h;exact h.2.2
theorem iw.kids {w:World} {lo hi b:Nat} {g:Option Nat} {bs:List Nat} {ks:List Tree} (h:iw w lo hi b g bs ks) (hh:hi≤w.heap.size):Kids w lo bs ks:=⟨hi,hh,h.re (Nat.le_refl _) (fun k e=>by cases e)⟩
theorem Calls.zk {P:Program} {n:Nat} {args:Array Value} {w:World} {S:jf} {w0:World} {f:dS} (h:Calls P n args w (Er S w0 f)):Calls P n args w fun e w'=>Er S w0 f e w'∨(e=.returned (.pointer none)∧Hid False) :=
 h.mono fun _ _ hE=>.inl hE
theorem kR {S:jf} {r:Rec} (CU:Sat Idx r.expr) (dO:iU 154 S r.expr):iU 152 S (mX S.F r):=by
 intro a w res h hm;have hbp:=h.blk.lt;unfold mX at hm;obtain⟨e,hm1,rfl⟩|⟨E,xg,hm1,hm⟩:=bind_some hm
 ·go_enter Tryz.func152,Tryz.ntmps152
  go_wp2_with (go_at_call 154;refine(dO _ _ _ h hm1).mono ?_;rintro e w1 ⟨rfl,hf1⟩)
  exact⟨rfl,rfl,hf1⟩
 have hidx:=CU _ _ _ hm1;have c1:=fun W (hW:PS S a W)=>dO _ _ _ hW hm1
 clear hm1;rcases Gh:(E.n.kind==25)with _|_
 ·rcases Cu:(E.n.kind==24)with _|_
  ·simp only[Gh,Cu,Bool.or_self,Bool.false_eq_true,if_false]at hm;obtain⟨n,ks⟩:=E;dsimp only[Tree.n,Tree.ks,Idx]at hm hidx Gh Cu
   cases res with
   | error f =>
    go_enter Tryz.func152,Tryz.ntmps152
    go_wp2_with (first|(go_at_call 154;refine(c1 _ h).mono ?_;rintro e w1 ⟨b1,a1,rfl,rfl,aA,hf1,hs1⟩;clear c1;obtain⟨z,vk,bs,hB,hrow,hvk,jZ⟩:=hs1.open;obtain⟨kc,kz,aH,kb⟩:=hB.rules;simp only[aj]at kc aH;have hlt1:=hs1.lt;have hw1:=hf1.size)|(go_at_call 39;refine(aK _ _ _ _ _ ⟨_,_,_,rfl⟩).mono ?_;rintro e w9 ⟨rfl,rfl⟩)|(go_at_call 153;refine(lU (aA.fr (((Fr.refl [] _).alloc _).alloc _)) hm).mono ?_;rintro e w4 ⟨rfl,eY⟩))
    exact⟨rfl,rfl,((hf1.alloc _).alloc _).trans eY⟩
   | ok p =>
    obtain⟨T,ts'⟩:=p
    go_enter Tryz.func152,Tryz.ntmps152
    go_wp2_with (first|(go_at_call 154;refine(c1 _ h).mono ?_;rintro e w1 ⟨b1,a1,rfl,rfl,aA,hf1,hs1⟩;clear c1;obtain⟨z,vk,bs,hB,hrow,hvk,jZ⟩:=hs1.open;obtain⟨kc,kz,aH,kb⟩:=hB.rules;simp only[aj]at kc aH;have hlt1:=hs1.lt;have hw1:=hf1.size)|(go_at_call 39;refine(aK _ _ _ _ _ ⟨_,_,_,rfl⟩).mono ?_;rintro e w9 ⟨rfl,rfl⟩)|(go_at_call 153;refine(lT (lo:=w.heap.size) (aA.fr (((Fr.refl [] _).alloc _).alloc _)) (by simpa[aj,ptrs,cZ,leaf] using(Kids.one hs1 (Nat.le_refl _)).made ⟨17,n.at',0,[],0,0⟩ 0 (by simp) hw1) (by omega) (by simp) hm).mono ?_;rintro e w4 ⟨b4,a4,rfl,rfl,fT,eY,hs4⟩))
    go_ret;exact⟨b4,a4,rfl,rfl,fT,((hf1.alloc _).alloc _).trans eY,hs4⟩
  ·simp only[Gh,Cu,Bool.or_true,Bool.false_eq_true,if_false,if_true]at hm;obtain⟨n,ks⟩:=E;dsimp only[Tree.n,Tree.ks,Idx]at hm hidx Gh Cu
   obtain⟨e,hm2,rfl⟩|⟨q,tL,hm2,hm⟩:=bind_some hm
   ·go_enter Tryz.func152,Tryz.ntmps152
    go_wp2_with (first|(go_at_call 154;refine(c1 _ h).mono ?_;rintro e w1 ⟨b1,a1,rfl,rfl,aA,hf1,hs1⟩;clear c1;obtain⟨z,vk,bs,hB,hrow,hvk,jZ⟩:=hs1.open;obtain⟨kc,kz,aH,kb⟩:=hB.rules;simp only[aj]at kc aH;have hlt1:=hs1.lt;have hw1:=hf1.size)|(go_at_call 41;refine(ku aA hm2).mono ?_;rintro e w2 ⟨rfl,hf2⟩))
    exact⟨rfl,rfl,hf1.trans hf2⟩
   cases q
   ·simp only[Bool.false_eq_true,if_false]at hm;cases res with
    | error f =>
     go_enter Tryz.func152,Tryz.ntmps152
     go_wp2_with (first|(go_at_call 154;refine(c1 _ h).mono ?_;rintro e w1 ⟨b1,a1,rfl,rfl,aA,hf1,hs1⟩;clear c1;obtain⟨z,vk,bs,hB,hrow,hvk,jZ⟩:=hs1.open;obtain⟨kc,kz,aH,kb⟩:=hB.rules;simp only[aj]at kc aH;have hlt1:=hs1.lt;have hw1:=hf1.size)|(go_at_call 41;refine(dQ aA hm2).mono ?_;rintro e w2 ⟨rfl,a2,rfl,aG,hf2⟩;clear hm2;have hB2:=hB.fr hf2 (by simp;omega);obtain⟨rc,rz,bE,rb⟩:=hB2.rules;simp only[aj]at rc bE;have hw2:=hf2.size)|(go_at_call 39;refine(aK _ _ _ _ _ ⟨_,_,_,rfl⟩).mono ?_;rintro e w9 ⟨rfl,rfl⟩)|(go_at_call 153;refine(lU (aG.fr (((Fr.refl [] _).alloc _).alloc _)) hm).mono ?_;rintro e w4 ⟨rfl,eY⟩))
     exact⟨rfl,rfl,(((hf1.trans hf2).alloc _).alloc _).trans eY⟩
    | ok p =>
     obtain⟨T,ts'⟩:=p
     go_enter Tryz.func152,Tryz.ntmps152
     go_wp2_with (first|(go_at_call 154;refine(c1 _ h).mono ?_;rintro e w1 ⟨b1,a1,rfl,rfl,aA,hf1,hs1⟩;clear c1;obtain⟨z,vk,bs,hB,hrow,hvk,jZ⟩:=hs1.open;obtain⟨kc,kz,aH,kb⟩:=hB.rules;simp only[aj]at kc aH;have hlt1:=hs1.lt;have hw1:=hf1.size)|(go_at_call 41;refine(dQ aA hm2).mono ?_;rintro e w2 ⟨rfl,a2,rfl,aG,hf2⟩;clear hm2;have hB2:=hB.fr hf2 (by simp;omega);obtain⟨rc,rz,bE,rb⟩:=hB2.rules;simp only[aj]at rc bE;have hw2:=hf2.size)|(go_at_call 39;refine(aK _ _ _ _ _ ⟨_,_,_,rfl⟩).mono ?_;rintro e w9 ⟨rfl,rfl⟩)|(go_at_call 153;refine(lT (lo:=w.heap.size) (aG.fr (((Fr.refl [] _).alloc _).alloc _)) (by simpa[aj,ptrs,cZ,leaf] using(Kids.one (hs1.fr hf2 (by simp;omega) (Nat.le_refl _)) hw2).made ⟨17,n.at',0,[],0,0⟩ 0 (by simp) (by omega)) (by omega) (by simp) hm).mono ?_;rintro e w4 ⟨b4,a4,rfl,rfl,fT,eY,hs4⟩))
     go_ret;exact⟨b4,a4,rfl,rfl,fT,(((hf1.trans hf2).alloc _).alloc _).trans eY,hs4⟩
   simp only[if_true]at hm;obtain⟨e,dH,rfl⟩|⟨V,wR,dH,hm⟩:=bind_some hm
   ·go_enter Tryz.func152,Tryz.ntmps152
    go_wp2_with (first|(go_at_call 154;refine(c1 _ h).mono ?_;rintro e w1 ⟨b1,a1,rfl,rfl,aA,hf1,hs1⟩;clear c1;obtain⟨z,vk,bs,hB,hrow,hvk,jZ⟩:=hs1.open;obtain⟨kc,kz,aH,kb⟩:=hB.rules;simp only[aj]at kc aH;have hlt1:=hs1.lt;have hw1:=hf1.size)|(go_at_call 41;refine(dQ aA hm2).mono ?_;rintro e w2 ⟨rfl,a2,rfl,aG,hf2⟩;clear hm2;have hB2:=hB.fr hf2 (by simp;omega);obtain⟨rc,rz,bE,rb⟩:=hB2.rules;simp only[aj]at rc bE;have hw2:=hf2.size)|(go_at_call 154;refine(dO _ _ _ aG dH).mono ?_;rintro e w3 ⟨rfl,hf3⟩))
    exact⟨rfl,rfl,(hf1.trans hf2).trans hf3⟩
   obtain⟨k0,k1,rfl⟩:∃k0 k1,ks=[k0,k1]:=by
    have hl:=hidx (by simpa using Cu)
    match ks,hl with
    | [k0,k1],_=>exact⟨k0,k1,rfl⟩
   clear hidx;simp only[List.getD_cons_zero,List.getD_cons_succ]at hm;cases res with
   | error f =>
    go_enter Tryz.func152,Tryz.ntmps152
    go_wp2_with (first|(go_at_call 154;refine(c1 _ h).mono ?_;rintro e w1 ⟨b1,a1,rfl,rfl,aA,hf1,hs1⟩;clear c1;obtain⟨z,vk,bs,hB,hrow,hvk,jZ⟩:=hs1.open;obtain⟨kc,kz,aH,kb⟩:=hB.rules;simp only[aj]at kc aH;have hlt1:=hs1.lt;have hw1:=hf1.size)|(go_at_call 41;refine(dQ aA hm2).mono ?_;rintro e w2 ⟨rfl,a2,rfl,aG,hf2⟩;clear hm2;have hB2:=hB.fr hf2 (by simp;omega);obtain⟨rc,rz,bE,rb⟩:=hB2.rules;simp only[aj]at rc bE;have hw2:=hf2.size)|(go_at_call 154;refine(dO _ _ _ aG dH).mono ?_;rintro e w3 ⟨b3,a3,rfl,rfl,bY,hf3,hs3⟩;clear dH;have hB3:=hB2.fr hf3 (by simp;omega);obtain⟨sc,sz,sset,sb⟩:=hB3.rules;simp only[aj]at sc sset;have hw3:=hf3.size)|(go_at_call 39;refine(aK _ _ _ _ _ ⟨_,_,_,rfl⟩).mono ?_;rintro e w9 ⟨rfl,rfl⟩))
    obtain⟨g,cp,rfl,hg0,hg1⟩:=hrow.form (by simp)
    obtain⟨x0,x1,rfl⟩:∃x0 x1,bs=[x0,x1]:=by
     have hl:=jZ.length
     match bs,hl with
     | [x0,x1],_=>exact⟨x0,x1,rfl⟩
    have hrow3:=aF (aF hrow hf2 (by simp;omega)) hf3 (by simp;omega);have e0:w3.cell? ⟨g,0,none⟩=some (.pointer (some ⟨x0,0,none⟩)):=by have:=hrow3.cells (g:=g) rfl 0 _ rfl;simpa[add0,cZ]using this
    have e1:w3.cell? ⟨g,1,none⟩=some (.pointer (some ⟨x1,0,none⟩)):=by have:=hrow3.cells (g:=g) rfl 1 _ rfl;simpa[add0,cZ]using this
    have e6:w3.cell? ⟨b1,6,none⟩=some (.slice (some ⟨g,0,none⟩) 2 cp):=by rw[sc];rfl
    have hg3:g<w3.heap.size:=by omega
    have hfa:=(hf1.trans hf2).trans hf3
    go_region_held2 (fun X=>X.cell? ⟨b1,1,none⟩=some (.int .i64 n.at')∧X.cell? ⟨b1,6,none⟩=some (.slice (some ⟨g,0,none⟩) 2 cp)∧X.cell? ⟨g,0,none⟩=some (.pointer (some ⟨x0,0,none⟩))∧X.cell? ⟨g,1,none⟩=some (.pointer (some ⟨x1,0,none⟩))) (first|go_keep|(refine⟨?_,?_,?_,?_⟩<;>first|(rw[sc];rfl)|exact e6|exact e0|exact e1)|exact False.elim hF.out) (first|(go_at_call 39;refine(aK _ _ _ _ _ ⟨_,_,_,rfl⟩).mono ?_;rintro e w9 ⟨rfl,rfl⟩)|(go_at_call 153;refine(Calls.zk (lU (bY.fr ((((Fr.refl [] _).drew).alloc _).alloc _)) hm)).mono ?_;rintro e w4 (⟨rfl,eY⟩|⟨rfl,hF⟩);exact⟨rfl,rfl,(hfa.drew.alloc _).alloc _ |>.trans eY⟩))
    exact False.elim hF.out
   | ok p =>
    obtain⟨T,ts'⟩:=p
    go_enter Tryz.func152,Tryz.ntmps152
    go_wp2_with (first|(go_at_call 154;refine(c1 _ h).mono ?_;rintro e w1 ⟨b1,a1,rfl,rfl,aA,hf1,hs1⟩;clear c1;obtain⟨z,vk,bs,hB,hrow,hvk,jZ⟩:=hs1.open;obtain⟨kc,kz,aH,kb⟩:=hB.rules;simp only[aj]at kc aH;have hlt1:=hs1.lt;have hw1:=hf1.size)|(go_at_call 41;refine(dQ aA hm2).mono ?_;rintro e w2 ⟨rfl,a2,rfl,aG,hf2⟩;clear hm2;have hB2:=hB.fr hf2 (by simp;omega);obtain⟨rc,rz,bE,rb⟩:=hB2.rules;simp only[aj]at rc bE;have hw2:=hf2.size)|(go_at_call 154;refine(dO _ _ _ aG dH).mono ?_;rintro e w3 ⟨b3,a3,rfl,rfl,bY,hf3,hs3⟩;clear dH;have hB3:=hB2.fr hf3 (by simp;omega);obtain⟨sc,sz,sset,sb⟩:=hB3.rules;simp only[aj]at sc sset;have hw3:=hf3.size)|(go_at_call 39;refine(aK _ _ _ _ _ ⟨_,_,_,rfl⟩).mono ?_;rintro e w9 ⟨rfl,rfl⟩))
    obtain⟨g,cp,rfl,hg0,hg1⟩:=hrow.form (by simp)
    obtain⟨x0,x1,rfl⟩:∃x0 x1,bs=[x0,x1]:=by
     have hl:=jZ.length
     match bs,hl with
     | [x0,x1],_=>exact⟨x0,x1,rfl⟩
    have hrow3:=aF (aF hrow hf2 (by simp;omega)) hf3 (by simp;omega);have e0:w3.cell? ⟨g,0,none⟩=some (.pointer (some ⟨x0,0,none⟩)):=by have:=hrow3.cells (g:=g) rfl 0 _ rfl;simpa[add0,cZ]using this
    have e1:w3.cell? ⟨g,1,none⟩=some (.pointer (some ⟨x1,0,none⟩)):=by have:=hrow3.cells (g:=g) rfl 1 _ rfl;simpa[add0,cZ]using this
    have e6:w3.cell? ⟨b1,6,none⟩=some (.slice (some ⟨g,0,none⟩) 2 cp):=by rw[sc];rfl
    have hg3:g<w3.heap.size:=by omega
    have hfa:=(hf1.trans hf2).trans hf3;have hK:Kids w3.drew w.heap.size [x0,x1,b3] [k0,k1,V]:=(((jZ.kids (Nat.le_refl _)).fr hf2 (by simp;omega)).snoc hf3 (by simp;omega) hs3).fr ((Fr.refl [] _).drew) (by simp)
    go_region_held2 (fun X=>X.cell? ⟨b1,1,none⟩=some (.int .i64 n.at')∧X.cell? ⟨b1,6,none⟩=some (.slice (some ⟨g,0,none⟩) 2 cp)∧X.cell? ⟨g,0,none⟩=some (.pointer (some ⟨x0,0,none⟩))∧X.cell? ⟨g,1,none⟩=some (.pointer (some ⟨x1,0,none⟩))) (first|go_keep|(refine⟨?_,?_,?_,?_⟩<;>first|(rw[sc];rfl)|exact e6|exact e0|exact e1)|exact⟨hk4,hk3,hk1,hk2⟩) (first|(go_at_call 39;refine(aK _ _ _ _ _ ⟨_,_,_,rfl⟩).mono ?_;rintro e w9 ⟨rfl,rfl⟩)|(go_at_call 153;refine(lT (lo:=w.heap.size) (bY.fr ((((Fr.refl [] _).drew).alloc _).alloc _)) (by simpa[aj,ptrs,cZ,leaf]using hK.made ⟨8,n.at',0,[],0,0⟩ 0 (by simp) (by have:=hfa.size;simpa using this)) (by omega) (by simp) hm).mono ?_;rintro e w4 ⟨b4,a4,rfl,rfl,fT,eY,hs4⟩;have hfz:=(((Fr.refl [] w3).drew.alloc _).alloc _).nil.trans eY;have hk1:=hfz.cell e0 (by simp;omega);have hk2:=hfz.cell e1 (by simp;omega);have hk3:=hfz.cell e6 (by simp;omega);have hk4:=hfz.cell (show w3.cell? ⟨b1,1,none⟩=some (.int .i64 n.at')by rw[sc];rfl) (by simp;omega)))
    go_wp2;go_ret;exact⟨b4,a4,rfl,rfl,fT,((hfa.drew.alloc _).alloc _).trans eY,hs4⟩
 ·simp only[Gh,Bool.true_or,if_true]at hm;obtain⟨n,ks⟩:=E;dsimp only[Tree.n,Tree.ks,Idx]at hm hidx Gh
  obtain⟨e,hm2,rfl⟩|⟨q,tL,hm2,hm⟩:=bind_some hm
  ·go_enter Tryz.func152,Tryz.ntmps152
   go_wp2_with (first|(go_at_call 154;refine(c1 _ h).mono ?_;rintro e w1 ⟨b1,a1,rfl,rfl,aA,hf1,hs1⟩;clear c1;obtain⟨z,vk,bs,hB,hrow,hvk,jZ⟩:=hs1.open;obtain⟨kc,kz,aH,kb⟩:=hB.rules;simp only[aj]at kc aH;have hlt1:=hs1.lt;have hw1:=hf1.size)|(go_at_call 41;refine(ku aA hm2).mono ?_;rintro e w2 ⟨rfl,hf2⟩))
   exact⟨rfl,rfl,hf1.trans hf2⟩
  cases q
  ·simp only[Bool.false_eq_true,if_false]at hm;cases res with
   | error f =>
    go_enter Tryz.func152,Tryz.ntmps152
    go_wp2_with (first|(go_at_call 154;refine(c1 _ h).mono ?_;rintro e w1 ⟨b1,a1,rfl,rfl,aA,hf1,hs1⟩;clear c1;obtain⟨z,vk,bs,hB,hrow,hvk,jZ⟩:=hs1.open;obtain⟨kc,kz,aH,kb⟩:=hB.rules;simp only[aj]at kc aH;have hlt1:=hs1.lt;have hw1:=hf1.size)|(go_at_call 41;refine(dQ aA hm2).mono ?_;rintro e w2 ⟨rfl,a2,rfl,aG,hf2⟩;clear hm2;have hB2:=hB.fr hf2 (by simp;omega);obtain⟨rc,rz,bE,rb⟩:=hB2.rules;simp only[aj]at rc bE;have hw2:=hf2.size)|(go_at_call 39;refine(aK _ _ _ _ _ ⟨_,_,_,rfl⟩).mono ?_;rintro e w9 ⟨rfl,rfl⟩)|(go_at_call 153;refine(lU (aG.fr (((Fr.refl [] _).alloc _).alloc _)) hm).mono ?_;rintro e w4 ⟨rfl,eY⟩))
    exact⟨rfl,rfl,(((hf1.trans hf2).alloc _).alloc _).trans eY⟩
   | ok p =>
    obtain⟨T,ts'⟩:=p
    go_enter Tryz.func152,Tryz.ntmps152
    go_wp2_with (first|(go_at_call 154;refine(c1 _ h).mono ?_;rintro e w1 ⟨b1,a1,rfl,rfl,aA,hf1,hs1⟩;clear c1;obtain⟨z,vk,bs,hB,hrow,hvk,jZ⟩:=hs1.open;obtain⟨kc,kz,aH,kb⟩:=hB.rules;simp only[aj]at kc aH;have hlt1:=hs1.lt;have hw1:=hf1.size)|(go_at_call 41;refine(dQ aA hm2).mono ?_;rintro e w2 ⟨rfl,a2,rfl,aG,hf2⟩;clear hm2;have hB2:=hB.fr hf2 (by simp;omega);obtain⟨rc,rz,bE,rb⟩:=hB2.rules;simp only[aj]at rc bE;have hw2:=hf2.size)|(go_at_call 39;refine(aK _ _ _ _ _ ⟨_,_,_,rfl⟩).mono ?_;rintro e w9 ⟨rfl,rfl⟩)|(go_at_call 153;refine(lT (lo:=w.heap.size) (aG.fr (((Fr.refl [] _).alloc _).alloc _)) (by simpa[aj,ptrs,cZ,leaf] using(Kids.one (hs1.fr hf2 (by simp;omega) (Nat.le_refl _)) hw2).made ⟨17,n.at',0,[],0,0⟩ 0 (by simp) (by omega)) (by omega) (by simp) hm).mono ?_;rintro e w4 ⟨b4,a4,rfl,rfl,fT,eY,hs4⟩))
    go_ret;exact⟨b4,a4,rfl,rfl,fT,(((hf1.trans hf2).alloc _).alloc _).trans eY,hs4⟩
  simp only[if_true]at hm;obtain⟨e,dH,rfl⟩|⟨V,wR,dH,hm⟩:=bind_some hm
  ·go_enter Tryz.func152,Tryz.ntmps152
   go_wp2_with (first|(go_at_call 154;refine(c1 _ h).mono ?_;rintro e w1 ⟨b1,a1,rfl,rfl,aA,hf1,hs1⟩;clear c1;obtain⟨z,vk,bs,hB,hrow,hvk,jZ⟩:=hs1.open;obtain⟨kc,kz,aH,kb⟩:=hB.rules;simp only[aj]at kc aH;have hlt1:=hs1.lt;have hw1:=hf1.size)|(go_at_call 41;refine(dQ aA hm2).mono ?_;rintro e w2 ⟨rfl,a2,rfl,aG,hf2⟩;clear hm2;have hB2:=hB.fr hf2 (by simp;omega);obtain⟨rc,rz,bE,rb⟩:=hB2.rules;simp only[aj]at rc bE;have hw2:=hf2.size)|(go_at_call 154;refine(dO _ _ _ aG dH).mono ?_;rintro e w3 ⟨rfl,hf3⟩))
   exact⟨rfl,rfl,(hf1.trans hf2).trans hf3⟩
  cases res with
  | error f =>
   go_enter Tryz.func152,Tryz.ntmps152
   go_wp2_with (first|(go_at_call 154;refine(c1 _ h).mono ?_;rintro e w1 ⟨b1,a1,rfl,rfl,aA,hf1,hs1⟩;clear c1;obtain⟨z,vk,bs,hB,hrow,hvk,jZ⟩:=hs1.open;obtain⟨kc,kz,aH,kb⟩:=hB.rules;simp only[aj]at kc aH;have hlt1:=hs1.lt;have hw1:=hf1.size)|(go_at_call 41;refine(dQ aA hm2).mono ?_;rintro e w2 ⟨rfl,a2,rfl,aG,hf2⟩;clear hm2;have hB2:=hB.fr hf2 (by simp;omega);obtain⟨rc,rz,bE,rb⟩:=hB2.rules;simp only[aj]at rc bE;have hw2:=hf2.size)|(go_at_call 154;refine(dO _ _ _ aG dH).mono ?_;rintro e w3 ⟨b3,a3,rfl,rfl,bY,hf3,hs3⟩;clear dH;have hB3:=hB2.fr hf3 (by simp;omega);obtain⟨sc,sz,sset,sb⟩:=hB3.rules;simp only[aj]at sc sset;have hw3:=hf3.size)|(go_at_call 39;refine(aK _ _ _ _ _ ⟨_,_,_,rfl⟩).mono ?_;rintro e w9 ⟨rfl,rfl⟩))
   go_region_held2 (fun X=>X.cell? ⟨b1,1,none⟩=some (.int .i64 n.at')∧X.cell? ⟨b1,3,none⟩=some (.string ⟨n.text.toArray⟩)) (first|go_keep|(refine⟨?_,?_⟩<;>rw[sc]<;>rfl)|exact False.elim hF.out) (first|(go_at_call 39;refine(aK _ _ _ _ _ ⟨_,_,_,rfl⟩).mono ?_;rintro e w9 ⟨rfl,rfl⟩)|(go_at_call 153;refine(Calls.zk (lU (bY.fr ((((Fr.refl [] _).drew).alloc _).alloc _)) hm)).mono ?_;rintro e w4 (⟨rfl,eY⟩|⟨rfl,hF⟩);exact⟨rfl,rfl,(((hf1.trans hf2).trans hf3).drew.alloc _).alloc _ |>.trans eY⟩))
   exact False.elim hF.out
  | ok p =>
   obtain⟨T,ts'⟩:=p
   go_enter Tryz.func152,Tryz.ntmps152
   go_wp2_with (first|(go_at_call 154;refine(c1 _ h).mono ?_;rintro e w1 ⟨b1,a1,rfl,rfl,aA,hf1,hs1⟩;clear c1;obtain⟨z,vk,bs,hB,hrow,hvk,jZ⟩:=hs1.open;obtain⟨kc,kz,aH,kb⟩:=hB.rules;simp only[aj]at kc aH;have hlt1:=hs1.lt;have hw1:=hf1.size)|(go_at_call 41;refine(dQ aA hm2).mono ?_;rintro e w2 ⟨rfl,a2,rfl,aG,hf2⟩;clear hm2;have hB2:=hB.fr hf2 (by simp;omega);obtain⟨rc,rz,bE,rb⟩:=hB2.rules;simp only[aj]at rc bE;have hw2:=hf2.size)|(go_at_call 154;refine(dO _ _ _ aG dH).mono ?_;rintro e w3 ⟨b3,a3,rfl,rfl,bY,hf3,hs3⟩;clear dH;have hB3:=hB2.fr hf3 (by simp;omega);obtain⟨sc,sz,sset,sb⟩:=hB3.rules;simp only[aj]at sc sset;have hw3:=hf3.size)|(go_at_call 39;refine(aK _ _ _ _ _ ⟨_,_,_,rfl⟩).mono ?_;rintro e w9 ⟨rfl,rfl⟩))
   have hfa:=(hf1.trans hf2).trans hf3
   go_region_held3 (fun X=>X.cell? ⟨b1,1,none⟩=some (.int .i64 n.at')∧X.cell? ⟨b1,3,none⟩=some (.string ⟨n.text.toArray⟩)) (first|go_keep|(refine⟨?_,?_⟩<;>rw[sc]<;>rfl)|(refine⟨?_,?_⟩<;>rw[uc]<;>rfl)) (first|(go_at_call 39;refine(aK _ _ _ _ _ ⟨_,_,_,rfl⟩).mono ?_;rintro e w9 ⟨rfl,rfl⟩)|(go_at_call 153;refine(lT (lo:=w.heap.size) (bY.fr ((((Fr.refl [] _).drew).alloc _).alloc _)) (by simpa[aj,ptrs,cZ,leaf] using(Kids.one (show Sp w3.drew w.heap.size w3.heap.size b3 V from(hs3.wide (lo':=w.heap.size) (by omega) (Nat.le_refl _)).keep (w':=w3.drew) (fun _ _ _=>rfl) (Nat.le_refl _) (Nat.le_refl _)) (Nat.le_refl _)).made ⟨7,n.at',0,n.text,0,0⟩ 0 (by simp) (by have:=hfa.size;simpa using this)) (by omega) (by simp) hm).mono ?_;rintro e w4 ⟨b4,a4,rfl,rfl,fT,eY,hs4⟩;obtain⟨uc,uz,uset,ub⟩:=(((show au w3.drew b1 _ _ from hB3).alloc _ |>.alloc _).fr eY (by simp;omega)).rules;simp only[aj]at uc))
   go_wp2;go_ret;exact⟨b4,a4,rfl,rfl,fT,((hfa.drew.alloc _).alloc _).trans eY,hs4⟩
theorem iw.re' {w:World} {hi b b':Nat} {g g':Option Nat}:∀{ks:List Tree} {bs:List Nat} {lo:Nat},(b'<lo∨hi≤b')→(∀k,g'=some k→k<lo∨hi≤k)→iw w lo hi b g bs ks→iw w lo hi b' g' bs ks
 | [],bs,lo,hb,hg,h=>by simp only[iw]at h ⊢;exact h
 | t::ts,bs,lo,hb,hg,h=>by
  have hle:=h.le (lo:=0);simp only[iw]at h ⊢;obtain⟨x,xs,l,hh,e,a1,a2,a3,a4,a5,a6,a7⟩:=h
  have hle2:=a7.le (lo:=0);exact⟨x,xs,l,hh,e,a1,a2,a3,by omega,fun k hk=>by have:=hg k hk;omega,a6,iw.re' (by omega) (fun k hk=>by have:=hg k hk;omega) a7⟩
theorem iw.reg {w:World} {hi b:Nat} {g g':Option Nat} (hg:∀k,g'=some k→g=some k∨hi≤k):∀{ks:List Tree} {bs:List Nat} {lo:Nat},iw w lo hi b g bs ks→iw w lo hi b g' bs ks
 | [],bs,lo,h=>by simp only[iw]at h ⊢;exact h
 | t::ts,bs,lo,h=>by
  simp only[iw]at h ⊢;obtain⟨x,xs,l,hh,e,a1,a2,a3,a4,a5,a6,a7⟩:=h
  exact⟨x,xs,l,hh,e,a1,a2,a3,a4,fun k hk=>(hg k hk).elim (a5 k) (fun h1=>.inr (by omega)),a6,iw.reg hg a7⟩
theorem iw.append {w:World} {hi hi' hi2 b:Nat} {g:Option Nat} {xs:List Nat} {Ts:List Tree} (hh:hi≤hi') (h2:iw w hi' hi2 b g xs Ts):∀{ks:List Tree} {bs:List Nat} {lo:Nat},iw w lo hi b g bs ks→iw w lo hi2 b g (bs++xs) (ks++Ts)
 | [],bs,lo,h=>by
  simp only[iw]at h;obtain⟨rfl,h1⟩:=h
  simpa using h2.wide (by omega) (Nat.le_refl _)
 | t::ts,bs,lo,h=>by
  simp only[iw]at h;obtain⟨x,ys,l,hh',rfl,a1,a2,a3,a4,a5,a6,a7⟩:=h
  have:=h2.le (lo:=0)
  simp only[List.cons_append,iw];exact⟨x,ys++xs,l,hh',rfl,a1,a2,by omega,a4,a5,a6,iw.append hh h2 a7⟩
theorem Gr.Vs {S:List Nat} {w w2 w3:World} {lo c g' cap':Nat} {n:Ck.Node} {bs xs:List Nat} {ks Ts:List Tree} {vk:Value} {o:Obj} (h:Gr w lo c n bs ks vk) (hf:Fr S w w2) (hS:∀x∈S,x<lo) (ht:Kids w2 w.heap.size xs Ts)
  (hown:w3.ownsRow (c+1) 55 1 (.slice (some ⟨g',0,none⟩) (ks.length+Ts.length) cap') (ks.length+Ts.length) (ptrs bs++ptrs xs)) (hg:(w2.alloc o).grownBy w3 vk.ownBlock) (hat:vk.ownBlock=some g'∨w2.heap.size≤g') :
  Gr (Ck.blk w3 c (aj n 0 (.slice (some ⟨g',0,none⟩) (ks.length+Ts.length) cap')) 90) lo c n (bs++xs) (ks++Ts) (.slice (some ⟨g',0,none⟩) (ks.length+Ts.length) cap'):=by
 have h2:=h.fr hf hS;have hc:=h.blk.lt;have hz:=hf.size;have hlo:=h.lo;have hz3:=hg.size;simp only[World.size_alloc]at hz3;obtain⟨hi,k1,k2⟩:=h.kids
 obtain⟨hi2,j1,j2⟩:=ht
 have hlt:∀k,vk.ownBlock=some k→c+1≤k∧k<w.heap.size:=fun k hk=>h.row.lt k hk
 have hle:=j2.le (lo:=0);have k3:iw w2 lo hi c vk.ownBlock bs ks:=k2.keep (fun k q1 q2=>hf.block k (by omega) (fun hm=>by have:=hS k hm;omega)) (Nat.le_refl _) (Nat.le_refl _)
 have hX:∀k,k<w2.heap.size→k≠c→vk.ownBlock≠some k→(Ck.blk w3 c (aj n 0 (.slice (some ⟨g',0,none⟩) (ks.length+Ts.length) cap')) 90).heap[k]? = w2.heap[k]?:=fun k q2 q3 q4=>by
  rw[bH q3,hg.block k (by simp;omega) (fun e=>q4 e.symm)];exact Below.heap_alloc w2 o k (by omega)
 have k3':=iw.Lx k3 (fun k q1 q2 q3 q4=>hX k (by omega) q3 q4);have ht':=j2.keep (fun k q1 q2=>hX k (by omega) (by omega) (fun e=>by have:=hlt k e;omega)) (Nat.le_refl _) (Nat.le_refl _);have hgg:∀k,(Value.slice (some ⟨g',0,none⟩) (ks.length+Ts.length) cap').ownBlock=some k→g'=k:=fun k e=>by simpa[Value.ownBlock]using e
 refine⟨au.blk (by omega),by simpa[ptrs]using eB hown (by omega),⟨hi2,by rw[aB];omega,?_⟩,hlo⟩
 have hg5:∀k,(Value.slice (some ⟨g',0,none⟩) (ks.length+Ts.length) cap').ownBlock=some k→k<w.heap.size∨hi2≤k:=fun k e=>by
  have:=hgg k e
  rcases hat with h1|h1
  ·exact .inl (by have:=hlt _ h1;omega)
  ·exact .inr (by omega)
 have k5:=iw.re' (b':=c) (.inl (by omega)) hg5 ht';refine iw.append k1 k5 (iw.reg (fun k e=>?_) k3')
 have:=hgg k e
 rcases hat with h1|h1
 ·exact .inl (by rw[h1,this])
 ·exact .inr (by omega)
theorem Gr.nG {S:jf} {w w1 w2 w3:World} {a0 a2 c g' cap':Nat} {n:Ck.Node} {bs xs:List Nat} {ks Ts:List Tree} {vk:Value} {o:Obj} (h0:PS S a0 w) (h:Gr w1 w.heap.size c n bs ks vk) (hf1:Fr [S.bp] w w1) (hf2:Fr [S.bp] w1 w2)
  (hps:PS S a2 w2) (ht:Kids w2 w1.heap.size xs Ts)
  (hown:w3.ownsRow (c+1) 55 1 (.slice (some ⟨g',0,none⟩) (ks.length+Ts.length) cap') (ks.length+Ts.length) (ptrs bs++ptrs xs)) (hg:(w2.alloc o).grownBy w3 vk.ownBlock) (hat:vk.ownBlock=some g'∨g'=(w2.alloc o).heap.size) :
  PS S a2 (Ck.blk w3 c (aj n 0 (.slice (some ⟨g',0,none⟩) (ks.length+Ts.length) cap')) 90)∧Fr [S.bp] w (Ck.blk w3 c (aj n 0 (.slice (some ⟨g',0,none⟩) (ks.length+Ts.length) cap')) 90) ∧
  Gr (Ck.blk w3 c (aj n 0 (.slice (some ⟨g',0,none⟩) (ks.length+Ts.length) cap')) 90) w.heap.size c n (bs++xs) (ks++Ts) (.slice (some ⟨g',0,none⟩) (ks.length+Ts.length) cap'):=by
 have hbp:=h0.blk.lt;have hlo:=h.lo;have hlt:=h.row.lt
 have hF:Fr [S.bp] w (Ck.blk w3 c (aj n 0 (.slice (some ⟨g',0,none⟩) (ks.length+Ts.length) cap')) 90) :=
  (((hf1.trans hf2).alloc _).grown hg (fun k e=>.inr (by have:=(hlt k e).1;omega))).blk (.inr hlo) _ _
 refine⟨h0.go hF ?_ hps.ha,hF,Gr.Vs h hf2 (by simp;omega) ht hown hg (hat.imp id (fun e=>by rw[e];simp))⟩;refine au.aL ((hps.blk.alloc _).grown hg (fun e=>?_)) (by omega)
 have:=(hlt _ e).1;omega
theorem Calls.dead {P:Program} {n:Nat} {args:Array Value} {w:World} {S:jf} {w0:World} {f:dS} (h:Calls P n args w (Er S w0 f)) (T:Tree) (ts:TS):Calls P n args w fun e w'=>Er S w0 f e w'∨(Hid False∧Vo S w0 w0.heap.size T ts e w') :=
 h.mono fun _ _ hE=>.inl hE
theorem Jz {S:jf} {r:Rec} (dO:iU 154 S r.expr) (ihb:iU 73 S r.block) (uL:iU 155 S r.choice):iU 155 S (qM S.F r):=by
 intro a w res h hm;have hbp:=h.blk.lt;obtain⟨i0,hi,hz0,hz1,hz2⟩:=info_parts Tryz.infoSprout
 unfold qM at hm;obtain⟨e,hm1,rfl⟩|⟨at',xg,hm1,hm⟩:=bind_some hm
 ·go_enter Tryz.func155,Tryz.ntmps155
  go_wp2_with (go_at_call 43;refine(gQ h hm1).mono ?_;rintro e w1 ⟨rfl,hf1⟩)
  exact⟨rfl,rfl,hf1⟩
 go_enter Tryz.func155,Tryz.ntmps155
 go_wp2_with (first|(go_at_call 43;refine(dZ h hm1).mono ?_;rintro e w1 ⟨rfl,a1,rfl,aA,hf1⟩;clear hm1)|(go_at_call 39;refine(aK _ _ _ _ _ ⟨_,_,_,rfl⟩).mono ?_;rintro e w9 ⟨rfl,rfl⟩))
 have hw1:=hf1.size;obtain⟨c,hc⟩:∃c,Hid (c=w1.heap.size):=⟨_,rfl⟩
 obtain⟨W0,hW0⟩:∃X,X=w1.alloc (.cells (aj ⟨9,at',0,[],0,0⟩ 0 (.slice none 0 0)) 90):=⟨_,rfl⟩
 have hG:=Gr.new w1 w.heap.size ⟨9,at',0,[],0,0⟩ hw1;have bg:=aA.fr ((Fr.refl [] _).alloc (.cells (aj ⟨9,at',0,[],0,0⟩ 0 (.slice none 0 0)) 90));have hf0:=hf1.alloc (.cells (aj ⟨9,at',0,[],0,0⟩ 0 (.slice none 0 0)) 90);rw[←hW0]at hG bg hf0
 simp only[aj]at hW0;rw[←hW0];rw[←hc.out]at hG ⊢
 clear hW0 hc aA hf1 hw1;obtain⟨ks,hks⟩:∃ks,Hid (ks=([]:List Tree)):=⟨_,rfl⟩
 obtain⟨bs,hbs⟩:∃bs,Hid (bs=([]:List Nat)):=⟨_,rfl⟩
 obtain⟨vk,hvk⟩:∃vk:Value,Hid (vk=.slice none 0 0):=⟨_,rfl⟩
 have hkl:ks.length≤8:=by rw[hks.out];simp
 have hG1:Gr W0 w.heap.size c ⟨9,at',0,[],0,0⟩ bs ks vk:=by rw[hks.out,hbs.out,hvk.out];exact hG
 clear hG hvk;have hbw:=hf0.size;obtain⟨kc,kz,aH,kb⟩:=hG1.blk.rules
 simp only[aj]at kc aH;obtain⟨e,hm2,rfl⟩|⟨E,tL,hm2,hm⟩:=bind_some hm
 ·go_region_dies
  all_goals (go_at_call 154;refine(dO _ _ _ (bg.fr (Fr.refl [] _).drew) hm2).mono ?_;rintro e w2 ⟨rfl,hf2⟩)
  all_goals exact⟨rfl,rfl,(hf0.drew).trans hf2⟩
 obtain⟨e,dH,rfl⟩|⟨B,wR,dH,hm⟩:=bind_some hm
 ·go_region_law (first|(refine step_append_lies _ rfl _ _ 88 rfl (c+1) 55 i0 (.pointer none) 1 8 Tryz.underlying88 hi hz0 hz1 hz2 rfl (by decide) vk ks.length (ptrs bs) rfl (by exact aF hG3.row ((Fr.refl [] _).alloc _) (by simp)) ⟨w3.heap.size,0,none⟩ 2 2 [cZ b2,cZ b3] rfl rfl (World.news_of_block (au.new _ _ _)) (by simp[Value.oneCell',cZ]) (by omega) (by simp[maxLen];omega) (by omega) (by have:=hG3.blk.lt;simp;omega) _ rfl ?_;intro g' cap' w8 dw fO ig lI;obtain⟨qc,qz,bS,qb⟩:=((hG3.blk.alloc _).grown fO (fun e=>by have:=(hG3.row.lt _ e).1;omega)).rules;simp only[aj]at qc bS)|(go_simp;go_at_call 154;refine(dO _ _ _ (bg.fr (Fr.refl [] _).drew) hm2).mono ?_;rintro e w2 ⟨b2,a2,rfl,rfl,aG,hf2,hs2⟩;have hG2:=(hG1.fr (Fr.refl [] _).drew (by simp)).fr hf2 (by simp;omega);obtain⟨rc,rz,bE,rb⟩:=hG2.blk.rules;simp only[aj]at rc bE;have hw2:=hf2.size)|(go_simp;go_at_call 73;refine(Calls.dead (ihb _ _ _ aG dH) E []).mono ?_;rintro e w3 (⟨rfl,hf3⟩|⟨hF,b3,a3,rfl,hts,bY,hf3,hs3⟩);exact⟨rfl,rfl,((hf0.drew).trans hf2).trans hf3⟩;have hG3:=hG2.fr hf3 (by simp;omega);obtain⟨sc,sz,sset,sb⟩:=hG3.blk.rules;simp only[aj]at sc sset))
  all_goals exact False.elim hF.out
 have HM:=Lib.hid hm;clear hm
 go_cut [] (fun W=>Hid (∃bs vk a,wR=S.ts a∧PS S a W∧Fr [S.bp] w W∧Gr W w.heap.size c ⟨9,at',0,[],0,0⟩ bs [E,B] vk))
 case first =>
  go_region_law (first|(refine step_append_lies _ rfl _ _ 88 rfl (c+1) 55 i0 (.pointer none) 1 8 Tryz.underlying88 hi hz0 hz1 hz2 rfl (by decide) vk ks.length (ptrs bs) rfl (by exact aF hG3.row ((Fr.refl [] _).alloc _) (by simp)) ⟨w3.heap.size,0,none⟩ 2 2 [cZ b2,cZ b3] rfl rfl (World.news_of_block (au.new _ _ _)) (by simp[Value.oneCell',cZ]) (by omega) (by simp[maxLen];omega) (by omega) (by have:=hG3.blk.lt;simp;omega) _ rfl ?_;intro g' cap' w8 dw fO ig lI;obtain⟨qc,qz,bS,qb⟩:=((hG3.blk.alloc _).grown fO (fun e=>by have:=(hG3.row.lt _ e).1;omega)).rules;simp only[aj]at qc bS)|(go_simp;go_at_call 154;refine(dO _ _ _ (bg.fr (Fr.refl [] _).drew) hm2).mono ?_;rintro e w2 ⟨b2,a2,rfl,rfl,aG,hf2,hs2⟩;have hG2:=(hG1.fr (Fr.refl [] _).drew (by simp)).fr hf2 (by simp;omega);obtain⟨rc,rz,bE,rb⟩:=hG2.blk.rules;simp only[aj]at rc bE;have hw2:=hf2.size)|(go_simp;go_at_call 73;refine(ihb _ _ _ aG dH).mono ?_;rintro e w3 ⟨b3,a3,rfl,rfl,bY,hf3,hs3⟩;have hG3:=hG2.fr hf3 (by simp;omega);obtain⟨sc,sz,sset,sb⟩:=hG3.blk.rules;simp only[aj]at sc sset))
  all_goals
   go_wp2
   go_meet
   case rel =>
    have hK:Kids w3 W0.heap.size [b2,b3] [E,B]:=(Kids.one (show Sp w2 W0.heap.size w2.heap.size b2 E from hs2) (Nat.le_refl _)).snoc hf3 (by simp;omega) hs3;obtain⟨q1,q2,q3⟩:=Gr.nG h hG1 hf0 (show Fr [S.bp] W0 w3 from((Fr.refl _ _).drew.trans hf2).trans hf3) bY hK dw fO ig
    rw[hks.out,hbs.out]at q3
    exact⟨_,_,a3,rfl,by simpa[aj,hks.out]using q1,by simpa[aj,hks.out]using q2,by simpa[aj,hks.out]using q3⟩
 case rest =>
  clear hG1 bg hf0 hks hbs hkl kc kz aH kb hbw hm2 dH;obtain⟨bs,vk,a,hts,bg,hf0,hG1⟩:=hcut.out
  clear hcut;subst hts;have hm:=HM.out;obtain⟨ks,hks⟩:∃ks,Hid (ks=[E,B]):=⟨_,rfl⟩
  have hkl:ks.length≤8:=by rw[hks.out];simp
  rw[←hks.out]at hG1
  have hbw:=hf0.size;obtain⟨e,iV,rfl⟩|⟨q,Jy,iV,hm⟩:=bind_some hm
  ·go_wp2_with (go_at_call 41;refine(ku bg iV).mono ?_;rintro e w4 ⟨rfl,eY⟩)
   exact⟨rfl,rfl,hf0.trans eY⟩
  cases q
  ·simp only[Bool.false_eq_true,if_false,aZ,Option.some.injEq]at hm;subst hm
   go_wp2_with (go_at_call 41;refine(dQ bg iV).mono ?_;rintro e w4 ⟨rfl,a4,rfl,fT,eY⟩;clear iV)
   go_ret;have hs:=(hG1.fr eY (by simp;omega)).sp;rw[hks.out]at hs
   exact⟨c,a4,rfl,rfl,fT,hf0.trans eY,hs⟩
  simp only[if_true]at hm;have hv:∀W:World,bO (W.alloc (.cells #[.string ⟨#[105,102]⟩] 9)) (.slice (some ⟨W.heap.size,0,none⟩) 1 1) [[105,102]]:=fun W=>str1 W [105,102]
  obtain⟨e,yC,rfl⟩|⟨p,ts5,yC,hm⟩:=bind_some hm
  ·go_wp2_with (first|(go_at_call 41;refine(dQ bg iV).mono ?_;rintro e w4 ⟨rfl,a4,rfl,fT,eY⟩;clear iV)|(go_at_call 72;refine(mE (fT.fr ((Fr.refl [] _).alloc _)) (hv _) (by simp) yC).mono ?_;rintro e w5 ⟨rfl,fF⟩))
   exact⟨rfl,rfl,((hf0.trans eY).alloc _).trans fF⟩
  cases p
  ·simp only[Bool.false_eq_true,if_false,if_true]at hm
   go_wp2_with (first|(go_at_call 41;refine(dQ bg iV).mono ?_;rintro e w4 ⟨rfl,a4,rfl,fT,eY⟩;clear iV)|(go_at_call 72;refine(iT (fT.fr ((Fr.refl [] _).alloc _)) (hv _) (by simp) yC).mono ?_;rintro e w5 ⟨rfl,rfl,ng,fF⟩;clear yC))
   have TQ:=(hG1.fr eY (by simp;omega)).fr (((Fr.refl [] w4).alloc (.cells #[.string ⟨#[105,102]⟩] 9)).trans fF) (by simp);have jA:Fr [S.bp] w w5:=(hf0.trans eY).trans (((Fr.refl [] w4).alloc (.cells #[.string ⟨#[105,102]⟩] 9)).trans fF).nil;clear hG1 fT bg hf0 eY fF HM;have aaN:=jA.size;obtain⟨kc,kz,aH,kb⟩:=TQ.blk.rules
   simp only[aj]at kc aH;obtain⟨e,zR,rfl⟩|⟨C,Z8,zR,hm⟩:=bind_some hm
   ·go_region_dies
    all_goals (go_at_call 73;refine(ihb _ _ _ (ng.fr (Fr.refl [] _).drew) zR).mono ?_;rintro e w2 ⟨rfl,hf2⟩)
    all_goals exact⟨rfl,rfl,(jA.drew).trans hf2⟩
   rw[aZ]at hm
   simp only[Option.some.injEq]at hm;subst hm
   go_region_law (first|(refine step_append_lies _ rfl _ _ 88 rfl (c+1) 55 i0 (.pointer none) 1 8 Tryz.underlying88 hi hz0 hz1 hz2 rfl (by decide) vk ks.length (ptrs bs) rfl (by exact aF hG2.row ((Fr.refl [] _).alloc _) (by simp)) ⟨w2.heap.size,0,none⟩ 1 1 [cZ b2] rfl rfl (World.news_of_block (au.new _ _ _)) (by simp[Value.oneCell',cZ]) (by omega) (by simp[maxLen];omega) (by omega) (by have:=hG2.blk.lt;simp;omega) _ rfl ?_;intro g' cap' w8 dw fO ig lI;obtain⟨qc,qz,bS,qb⟩:=((hG2.blk.alloc _).grown fO (fun e=>by have:=(hG2.row.lt _ e).1;omega)).rules;simp only[aj]at qc bS)|(go_simp;go_at_call 73;refine(ihb _ _ _ (ng.fr (Fr.refl [] _).drew) zR).mono ?_;rintro e w2 ⟨b2,a2,rfl,rfl,aG,hf2,hs2⟩;have hG2:=(TQ.fr (Fr.refl [] _).drew (by simp)).fr hf2 (by simp;omega);obtain⟨rc,rz,bE,rb⟩:=hG2.blk.rules;simp only[aj]at rc bE))
   all_goals
    go_wp2;go_ret;have hK:Kids w2 w5.heap.size [b2] [C]:=Kids.one (show Sp w2 w5.heap.size w2.heap.size b2 C from hs2) (Nat.le_refl _);obtain⟨q1,q2,q3⟩:=Gr.nG h TQ jA (show Fr [S.bp] w5 w2 from(Fr.refl _ _).drew.trans hf2) aG hK dw fO ig
    have hs:=q3.sp;rw[hks.out]at q1 q2 hs
    exact⟨c,a2,rfl,rfl,by simpa[aj,hks.out]using q1,by simpa[aj,hks.out]using q2,by simpa[aj,hks.out,leaf]using hs⟩
  ·simp only[Bool.false_eq_true,if_false,if_true]at hm
   go_wp2_with (first|(go_at_call 41;refine(dQ bg iV).mono ?_;rintro e w4 ⟨rfl,a4,rfl,fT,eY⟩;clear iV)|(go_at_call 72;refine(iT (fT.fr ((Fr.refl [] _).alloc _)) (hv _) (by simp) yC).mono ?_;rintro e w5 ⟨rfl,rfl,ng,fF⟩;clear yC))
   have TQ:=(hG1.fr eY (by simp;omega)).fr (((Fr.refl [] w4).alloc (.cells #[.string ⟨#[105,102]⟩] 9)).trans fF) (by simp);have jA:Fr [S.bp] w w5:=(hf0.trans eY).trans (((Fr.refl [] w4).alloc (.cells #[.string ⟨#[105,102]⟩] 9)).trans fF).nil;clear hG1 fT bg hf0 eY fF HM;have aaN:=jA.size;obtain⟨kc,kz,aH,kb⟩:=TQ.blk.rules
   simp only[aj]at kc aH;obtain⟨e,zR,rfl⟩|⟨C,Z8,zR,hm⟩:=bind_some hm
   ·go_region_dies
    all_goals (go_at_call 155;refine(uL _ _ _ (ng.fr (Fr.refl [] _).drew) zR).mono ?_;rintro e w2 ⟨rfl,hf2⟩)
    all_goals exact⟨rfl,rfl,(jA.drew).trans hf2⟩
   rw[aZ]at hm
   simp only[Option.some.injEq]at hm;subst hm
   go_region_law (first|(refine step_append_lies _ rfl _ _ 88 rfl (c+1) 55 i0 (.pointer none) 1 8 Tryz.underlying88 hi hz0 hz1 hz2 rfl (by decide) vk ks.length (ptrs bs) rfl (by exact aF hG2.row ((Fr.refl [] _).alloc _) (by simp)) ⟨w2.heap.size,0,none⟩ 1 1 [cZ b2] rfl rfl (World.news_of_block (au.new _ _ _)) (by simp[Value.oneCell',cZ]) (by omega) (by simp[maxLen];omega) (by omega) (by have:=hG2.blk.lt;simp;omega) _ rfl ?_;intro g' cap' w8 dw fO ig lI;obtain⟨qc,qz,bS,qb⟩:=((hG2.blk.alloc _).grown fO (fun e=>by have:=(hG2.row.lt _ e).1;omega)).rules;simp only[aj]at qc bS)|(go_simp;go_at_call 155;refine(uL _ _ _ (ng.fr (Fr.refl [] _).drew) zR).mono ?_;rintro e w2 ⟨b2,a2,rfl,rfl,aG,hf2,hs2⟩;have hG2:=(TQ.fr (Fr.refl [] _).drew (by simp)).fr hf2 (by simp;omega);obtain⟨rc,rz,bE,rb⟩:=hG2.blk.rules;simp only[aj]at rc bE))
   all_goals
    go_wp2;go_ret;have hK:Kids w2 w5.heap.size [b2] [C]:=Kids.one (show Sp w2 w5.heap.size w2.heap.size b2 C from hs2) (Nat.le_refl _);obtain⟨q1,q2,q3⟩:=Gr.nG h TQ jA (show Fr [S.bp] w5 w2 from(Fr.refl _ _).drew.trans hf2) aG hK dw fO ig
    have hs:=q3.sp;rw[hks.out]at q1 q2 hs
    exact⟨c,a2,rfl,rfl,by simpa[aj,hks.out]using q1,by simpa[aj,hks.out]using q2,by simpa[aj,hks.out,leaf]using hs⟩
def EX (S:jf) (w:World) (v:Value):Option Tok→Prop
 | none=>v=.pointer none
 | some l=>∃bt,v=.pointer (some ⟨bt,0,none⟩)∧au w bt #[.int .i64 l.kind,.int .i64 l.at',.string ⟨l.text.toArray⟩,.int .i64 l.int,.int .u64 l.bits] 82∧bt≠S.bp
abbrev EY (S:jf) (m:Option Tok→Ck.P Tree):Prop:=∀(l:Option Tok) (v:Value) (a:Nat) (w:World) (r:Except dS (Tree × TS)),EX S w v l→PS S a w→m l (S.ts a)=some r →
  Calls Tryz.prog 151 #[.pointer (some ⟨S.bp,0,none⟩),v] w (Rv S w w.heap.size r)
end Go.Proofs.YtoomapkcoibmhaaGreatDoor
end
