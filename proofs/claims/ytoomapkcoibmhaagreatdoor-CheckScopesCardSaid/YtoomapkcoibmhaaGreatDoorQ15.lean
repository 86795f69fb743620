/- A part of the proof. -/
import Derived.Deep.RegionHeld2
import Derived.Test.YtoomapkcoibmhaaGreatDoorQ14
set_option maxRecDepth 100000
set_option maxHeartbeats 12800000
set_option linter.all false
section
open Go Go.Proofs Go.RowKit Go.Shelf Ck
namespace Go.Proofs.YtoomapkcoibmhaaGreatDoor
theorem Sp.open {w:World} {lo hi b:Nat} {n:Ck.Node} {ks:List Tree} (h:Sp w lo hi b (.mk n ks)):∃(z:Int) (vk:Value) (bs:List Nat),Blk w b (ncells n z vk) 90∧w.ownsRow lo 55 1 vk ks.length (ptrs bs) ∧
   (∀g,vk.ownBlock=some g→g<hi)∧Sps w lo hi b vk.ownBlock bs ks:=by
 simp only[Sp]at h;exact h.2.2
theorem Sps.kids {w:World} {lo hi b:Nat} {g:Option Nat} {bs:List Nat} {ks:List Tree} (h:Sps w lo hi b g bs ks) (hh:hi≤w.heap.size):Kids w lo bs ks:=⟨hi,hh,h.re (Nat.le_refl _) (fun k e=>by cases e)⟩
theorem Calls.or_dead {P:Program} {n:Nat} {args:Array Value} {w:World} {S:PSt} {w0:World} {f:Flt} (h:Calls P n args w (Er S w0 f)):Calls P n args w fun e w'=>Er S w0 f e w'∨(e=.returned (.pointer none)∧Hid False) :=
 h.mono fun _ _ hE=>.inl hE
theorem plain_any {S:PSt} {r:Rec} (hsat:Sat Idx r.expr) (ihe:MAny 154 S r.expr):MAny 152 S (pPlain S.F r):=by
 intro a w res h hm
 have hbp:=h.blk.lt
 unfold pPlain at hm
 obtain⟨e,hm1,rfl⟩|⟨E,ts1,hm1,hm⟩:=bind_some hm
 ·go_enter Tryz.func152,Tryz.ntmps152
  go_wp2_with (go_at_call 154;refine(ihe _ _ _ h hm1).mono ?_;rintro e w1 ⟨rfl,hf1⟩)
  exact⟨rfl,rfl,hf1⟩
 have hidx:=hsat _ _ _ hm1
 have c1:=fun W (hW:PS S a W)=>ihe _ _ _ hW hm1
 clear hm1
 rcases h25:(E.n.kind==25)with _|_
 ·rcases h24:(E.n.kind==24)with _|_
  ·simp only[h25,h24,Bool.or_self,Bool.false_eq_true,if_false]at hm;obtain⟨n,ks⟩:=E;dsimp only[Tree.n,Tree.ks,Idx]at hm hidx h25 h24
   cases res with
   | error f =>
    go_enter Tryz.func152,Tryz.ntmps152
    go_wp2_with (first|(go_at_call 154;refine(c1 _ h).mono ?_;rintro e w1 ⟨b1,a1,rfl,rfl,hps1,hf1,hs1⟩;clear c1;obtain⟨z,vk,bs,hB,hrow,hvk,hkids⟩:=hs1.open;obtain⟨kc,kz,kset,kb⟩:=hB.rules;simp only[ncells]at kc kset;have hlt1:=hs1.lt;have hw1:=hf1.size)|(go_at_call 39;refine(node_any _ _ _ _ _ ⟨_,_,_,rfl⟩).mono ?_;rintro e w9 ⟨rfl,rfl⟩)|(go_at_call 153;refine(end_er (hps1.fr (((Fr.refl [] _).alloc _).alloc _)) hm).mono ?_;rintro e w4 ⟨rfl,hf4⟩))
    exact⟨rfl,rfl,((hf1.alloc _).alloc _).trans hf4⟩
   | ok p =>
    obtain⟨T,ts'⟩:=p
    go_enter Tryz.func152,Tryz.ntmps152
    go_wp2_with (first|(go_at_call 154;refine(c1 _ h).mono ?_;rintro e w1 ⟨b1,a1,rfl,rfl,hps1,hf1,hs1⟩;clear c1;obtain⟨z,vk,bs,hB,hrow,hvk,hkids⟩:=hs1.open;obtain⟨kc,kz,kset,kb⟩:=hB.rules;simp only[ncells]at kc kset;have hlt1:=hs1.lt;have hw1:=hf1.size)|(go_at_call 39;refine(node_any _ _ _ _ _ ⟨_,_,_,rfl⟩).mono ?_;rintro e w9 ⟨rfl,rfl⟩)|(go_at_call 153;refine(end_ok (lo:=w.heap.size) (hps1.fr (((Fr.refl [] _).alloc _).alloc _)) (by simpa[ncells,ptrs,ptrV,leaf] using(Kids.one hs1 (Nat.le_refl _)).made ⟨17,n.at',0,[],0,0⟩ 0 (by simp) hw1) (by omega) (by simp) hm).mono ?_;rintro e w4 ⟨b4,a4,rfl,rfl,hps4,hf4,hs4⟩))
    go_ret
    exact⟨b4,a4,rfl,rfl,hps4,((hf1.alloc _).alloc _).trans hf4,hs4⟩
  ·simp only[h25,h24,Bool.or_true,Bool.false_eq_true,if_false,if_true]at hm;obtain⟨n,ks⟩:=E;dsimp only[Tree.n,Tree.ks,Idx]at hm hidx h25 h24
   obtain⟨e,hm2,rfl⟩|⟨q,ts2,hm2,hm⟩:=bind_some hm
   ·go_enter Tryz.func152,Tryz.ntmps152
    go_wp2_with (first|(go_at_call 154;refine(c1 _ h).mono ?_;rintro e w1 ⟨b1,a1,rfl,rfl,hps1,hf1,hs1⟩;clear c1;obtain⟨z,vk,bs,hB,hrow,hvk,hkids⟩:=hs1.open;obtain⟨kc,kz,kset,kb⟩:=hB.rules;simp only[ncells]at kc kset;have hlt1:=hs1.lt;have hw1:=hf1.size)|(go_at_call 41;refine(skip_er hps1 hm2).mono ?_;rintro e w2 ⟨rfl,hf2⟩))
    exact⟨rfl,rfl,hf1.trans hf2⟩
   cases q
   ·simp only[Bool.false_eq_true,if_false]at hm
    cases res with
    | error f =>
     go_enter Tryz.func152,Tryz.ntmps152
     go_wp2_with (first|(go_at_call 154;refine(c1 _ h).mono ?_;rintro e w1 ⟨b1,a1,rfl,rfl,hps1,hf1,hs1⟩;clear c1;obtain⟨z,vk,bs,hB,hrow,hvk,hkids⟩:=hs1.open;obtain⟨kc,kz,kset,kb⟩:=hB.rules;simp only[ncells]at kc kset;have hlt1:=hs1.lt;have hw1:=hf1.size)|(go_at_call 41;refine(skip_ok hps1 hm2).mono ?_;rintro e w2 ⟨rfl,a2,rfl,hps2,hf2⟩;clear hm2;have hB2:=hB.fr hf2 (by simp;omega);obtain⟨rc,rz,rset,rb⟩:=hB2.rules;simp only[ncells]at rc rset;have hw2:=hf2.size)|(go_at_call 39;refine(node_any _ _ _ _ _ ⟨_,_,_,rfl⟩).mono ?_;rintro e w9 ⟨rfl,rfl⟩)|(go_at_call 153;refine(end_er (hps2.fr (((Fr.refl [] _).alloc _).alloc _)) hm).mono ?_;rintro e w4 ⟨rfl,hf4⟩))
     exact⟨rfl,rfl,(((hf1.trans hf2).alloc _).alloc _).trans hf4⟩
    | ok p =>
     obtain⟨T,ts'⟩:=p
     go_enter Tryz.func152,Tryz.ntmps152
     go_wp2_with (first|(go_at_call 154;refine(c1 _ h).mono ?_;rintro e w1 ⟨b1,a1,rfl,rfl,hps1,hf1,hs1⟩;clear c1;obtain⟨z,vk,bs,hB,hrow,hvk,hkids⟩:=hs1.open;obtain⟨kc,kz,kset,kb⟩:=hB.rules;simp only[ncells]at kc kset;have hlt1:=hs1.lt;have hw1:=hf1.size)|(go_at_call 41;refine(skip_ok hps1 hm2).mono ?_;rintro e w2 ⟨rfl,a2,rfl,hps2,hf2⟩;clear hm2;have hB2:=hB.fr hf2 (by simp;omega);obtain⟨rc,rz,rset,rb⟩:=hB2.rules;simp only[ncells]at rc rset;have hw2:=hf2.size)|(go_at_call 39;refine(node_any _ _ _ _ _ ⟨_,_,_,rfl⟩).mono ?_;rintro e w9 ⟨rfl,rfl⟩)|(go_at_call 153;refine(end_ok (lo:=w.heap.size) (hps2.fr (((Fr.refl [] _).alloc _).alloc _)) (by simpa[ncells,ptrs,ptrV,leaf] using(Kids.one (hs1.fr hf2 (by simp;omega) (Nat.le_refl _)) hw2).made ⟨17,n.at',0,[],0,0⟩ 0 (by simp) (by omega)) (by omega) (by simp) hm).mono ?_;rintro e w4 ⟨b4,a4,rfl,rfl,hps4,hf4,hs4⟩))
     go_ret
     exact⟨b4,a4,rfl,rfl,hps4,(((hf1.trans hf2).alloc _).alloc _).trans hf4,hs4⟩
   simp only[if_true]at hm
   obtain⟨e,hm3,rfl⟩|⟨V,ts3,hm3,hm⟩:=bind_some hm
   ·go_enter Tryz.func152,Tryz.ntmps152
    go_wp2_with (first|(go_at_call 154;refine(c1 _ h).mono ?_;rintro e w1 ⟨b1,a1,rfl,rfl,hps1,hf1,hs1⟩;clear c1;obtain⟨z,vk,bs,hB,hrow,hvk,hkids⟩:=hs1.open;obtain⟨kc,kz,kset,kb⟩:=hB.rules;simp only[ncells]at kc kset;have hlt1:=hs1.lt;have hw1:=hf1.size)|(go_at_call 41;refine(skip_ok hps1 hm2).mono ?_;rintro e w2 ⟨rfl,a2,rfl,hps2,hf2⟩;clear hm2;have hB2:=hB.fr hf2 (by simp;omega);obtain⟨rc,rz,rset,rb⟩:=hB2.rules;simp only[ncells]at rc rset;have hw2:=hf2.size)|(go_at_call 154;refine(ihe _ _ _ hps2 hm3).mono ?_;rintro e w3 ⟨rfl,hf3⟩))
    exact⟨rfl,rfl,(hf1.trans hf2).trans hf3⟩
   obtain⟨k0,k1,rfl⟩:∃k0 k1,ks=[k0,k1]:=by
    have hl:=hidx (by simpa using h24)
    match ks,hl with
    | [k0,k1],_=>exact⟨k0,k1,rfl⟩
   clear hidx
   simp only[List.getD_cons_zero,List.getD_cons_succ]at hm
   cases res with
   | error f =>
    go_enter Tryz.func152,Tryz.ntmps152
    go_wp2_with (first|(go_at_call 154;refine(c1 _ h).mono ?_;rintro e w1 ⟨b1,a1,rfl,rfl,hps1,hf1,hs1⟩;clear c1;obtain⟨z,vk,bs,hB,hrow,hvk,hkids⟩:=hs1.open;obtain⟨kc,kz,kset,kb⟩:=hB.rules;simp only[ncells]at kc kset;have hlt1:=hs1.lt;have hw1:=hf1.size)|(go_at_call 41;refine(skip_ok hps1 hm2).mono ?_;rintro e w2 ⟨rfl,a2,rfl,hps2,hf2⟩;clear hm2;have hB2:=hB.fr hf2 (by simp;omega);obtain⟨rc,rz,rset,rb⟩:=hB2.rules;simp only[ncells]at rc rset;have hw2:=hf2.size)|(go_at_call 154;refine(ihe _ _ _ hps2 hm3).mono ?_;rintro e w3 ⟨b3,a3,rfl,rfl,hps3,hf3,hs3⟩;clear hm3;have hB3:=hB2.fr hf3 (by simp;omega);obtain⟨sc,sz,sset,sb⟩:=hB3.rules;simp only[ncells]at sc sset;have hw3:=hf3.size)|(go_at_call 39;refine(node_any _ _ _ _ _ ⟨_,_,_,rfl⟩).mono ?_;rintro e w9 ⟨rfl,rfl⟩))
    obtain⟨g,cp,rfl,hg0,hg1⟩:=hrow.form (by simp)
    obtain⟨x0,x1,rfl⟩:∃x0 x1,bs=[x0,x1]:=by
     have hl:=hkids.length
     match bs,hl with
     | [x0,x1],_=>exact⟨x0,x1,rfl⟩
    have hrow3:=ownsRow_fr (ownsRow_fr hrow hf2 (by simp;omega)) hf3 (by simp;omega)
    have e0:w3.cell? ⟨g,0,none⟩=some (.pointer (some ⟨x0,0,none⟩)):=by have:=hrow3.cells (g:=g) rfl 0 _ rfl;simpa[add0,ptrV]using this
    have e1:w3.cell? ⟨g,1,none⟩=some (.pointer (some ⟨x1,0,none⟩)):=by have:=hrow3.cells (g:=g) rfl 1 _ rfl;simpa[add0,ptrV]using this
    have e6:w3.cell? ⟨b1,6,none⟩=some (.slice (some ⟨g,0,none⟩) 2 cp):=by rw[sc];rfl
    have hg3:g<w3.heap.size:=by omega
    have hfa:=(hf1.trans hf2).trans hf3
    go_region_held2 (fun X=>X.cell? ⟨b1,1,none⟩=some (.int .i64 n.at')∧X.cell? ⟨b1,6,none⟩=some (.slice (some ⟨g,0,none⟩) 2 cp)∧X.cell? ⟨g,0,none⟩=some (.pointer (some ⟨x0,0,none⟩))∧X.cell? ⟨g,1,none⟩=some (.pointer (some ⟨x1,0,none⟩))) (first|go_keep|(refine⟨?_,?_,?_,?_⟩<;>first|(rw[sc];rfl)|exact e6|exact e0|exact e1)|exact False.elim hF.out) (first|(go_at_call 39;refine(node_any _ _ _ _ _ ⟨_,_,_,rfl⟩).mono ?_;rintro e w9 ⟨rfl,rfl⟩)|(go_at_call 153;refine(Calls.or_dead (end_er (hps3.fr ((((Fr.refl [] _).drew).alloc _).alloc _)) hm)).mono ?_;rintro e w4 (⟨rfl,hf4⟩|⟨rfl,hF⟩);exact⟨rfl,rfl,(hfa.drew.alloc _).alloc _ |>.trans hf4⟩))
    exact False.elim hF.out
   | ok p =>
    obtain⟨T,ts'⟩:=p
    go_enter Tryz.func152,Tryz.ntmps152
    go_wp2_with (first|(go_at_call 154;refine(c1 _ h).mono ?_;rintro e w1 ⟨b1,a1,rfl,rfl,hps1,hf1,hs1⟩;clear c1;obtain⟨z,vk,bs,hB,hrow,hvk,hkids⟩:=hs1.open;obtain⟨kc,kz,kset,kb⟩:=hB.rules;simp only[ncells]at kc kset;have hlt1:=hs1.lt;have hw1:=hf1.size)|(go_at_call 41;refine(skip_ok hps1 hm2).mono ?_;rintro e w2 ⟨rfl,a2,rfl,hps2,hf2⟩;clear hm2;have hB2:=hB.fr hf2 (by simp;omega);obtain⟨rc,rz,rset,rb⟩:=hB2.rules;simp only[ncells]at rc rset;have hw2:=hf2.size)|(go_at_call 154;refine(ihe _ _ _ hps2 hm3).mono ?_;rintro e w3 ⟨b3,a3,rfl,rfl,hps3,hf3,hs3⟩;clear hm3;have hB3:=hB2.fr hf3 (by simp;omega);obtain⟨sc,sz,sset,sb⟩:=hB3.rules;simp only[ncells]at sc sset;have hw3:=hf3.size)|(go_at_call 39;refine(node_any _ _ _ _ _ ⟨_,_,_,rfl⟩).mono ?_;rintro e w9 ⟨rfl,rfl⟩))
    obtain⟨g,cp,rfl,hg0,hg1⟩:=hrow.form (by simp)
    obtain⟨x0,x1,rfl⟩:∃x0 x1,bs=[x0,x1]:=by
     have hl:=hkids.length
     match bs,hl with
     | [x0,x1],_=>exact⟨x0,x1,rfl⟩
    have hrow3:=ownsRow_fr (ownsRow_fr hrow hf2 (by simp;omega)) hf3 (by simp;omega)
    have e0:w3.cell? ⟨g,0,none⟩=some (.pointer (some ⟨x0,0,none⟩)):=by have:=hrow3.cells (g:=g) rfl 0 _ rfl;simpa[add0,ptrV]using this
    have e1:w3.cell? ⟨g,1,none⟩=some (.pointer (some ⟨x1,0,none⟩)):=by have:=hrow3.cells (g:=g) rfl 1 _ rfl;simpa[add0,ptrV]using this
    have e6:w3.cell? ⟨b1,6,none⟩=some (.slice (some ⟨g,0,none⟩) 2 cp):=by rw[sc];rfl
    have hg3:g<w3.heap.size:=by omega
    have hfa:=(hf1.trans hf2).trans hf3
    have hK:Kids w3.drew w.heap.size [x0,x1,b3] [k0,k1,V]:=(((hkids.kids (Nat.le_refl _)).fr hf2 (by simp;omega)).snoc hf3 (by simp;omega) hs3).fr ((Fr.refl [] _).drew) (by simp)
    go_region_held2 (fun X=>X.cell? ⟨b1,1,none⟩=some (.int .i64 n.at')∧X.cell? ⟨b1,6,none⟩=some (.slice (some ⟨g,0,none⟩) 2 cp)∧X.cell? ⟨g,0,none⟩=some (.pointer (some ⟨x0,0,none⟩))∧X.cell? ⟨g,1,none⟩=some (.pointer (some ⟨x1,0,none⟩))) (first|go_keep|(refine⟨?_,?_,?_,?_⟩<;>first|(rw[sc];rfl)|exact e6|exact e0|exact e1)|exact⟨hk4,hk3,hk1,hk2⟩) (first|(go_at_call 39;refine(node_any _ _ _ _ _ ⟨_,_,_,rfl⟩).mono ?_;rintro e w9 ⟨rfl,rfl⟩)|(go_at_call 153;refine(end_ok (lo:=w.heap.size) (hps3.fr ((((Fr.refl [] _).drew).alloc _).alloc _)) (by simpa[ncells,ptrs,ptrV,leaf]using hK.made ⟨8,n.at',0,[],0,0⟩ 0 (by simp) (by have:=hfa.size;simpa using this)) (by omega) (by simp) hm).mono ?_;rintro e w4 ⟨b4,a4,rfl,rfl,hps4,hf4,hs4⟩;have hfz:=(((Fr.refl [] w3).drew.alloc _).alloc _).nil.trans hf4;have hk1:=hfz.cell e0 (by simp;omega);have hk2:=hfz.cell e1 (by simp;omega);have hk3:=hfz.cell e6 (by simp;omega);have hk4:=hfz.cell (show w3.cell? ⟨b1,1,none⟩=some (.int .i64 n.at')by rw[sc];rfl) (by simp;omega)))
    go_wp2
    go_ret
    exact⟨b4,a4,rfl,rfl,hps4,((hfa.drew.alloc _).alloc _).trans hf4,hs4⟩
 ·simp only[h25,Bool.true_or,if_true]at hm;obtain⟨n,ks⟩:=E;dsimp only[Tree.n,Tree.ks,Idx]at hm hidx h25
  obtain⟨e,hm2,rfl⟩|⟨q,ts2,hm2,hm⟩:=bind_some hm
  ·go_enter Tryz.func152,Tryz.ntmps152
   go_wp2_with (first|(go_at_call 154;refine(c1 _ h).mono ?_;rintro e w1 ⟨b1,a1,rfl,rfl,hps1,hf1,hs1⟩;clear c1;obtain⟨z,vk,bs,hB,hrow,hvk,hkids⟩:=hs1.open;obtain⟨kc,kz,kset,kb⟩:=hB.rules;simp only[ncells]at kc kset;have hlt1:=hs1.lt;have hw1:=hf1.size)|(go_at_call 41;refine(skip_er hps1 hm2).mono ?_;rintro e w2 ⟨rfl,hf2⟩))
   exact⟨rfl,rfl,hf1.trans hf2⟩
  cases q
  ·simp only[Bool.false_eq_true,if_false]at hm
   cases res with
   | error f =>
    go_enter Tryz.func152,Tryz.ntmps152
    go_wp2_with (first|(go_at_call 154;refine(c1 _ h).mono ?_;rintro e w1 ⟨b1,a1,rfl,rfl,hps1,hf1,hs1⟩;clear c1;obtain⟨z,vk,bs,hB,hrow,hvk,hkids⟩:=hs1.open;obtain⟨kc,kz,kset,kb⟩:=hB.rules;simp only[ncells]at kc kset;have hlt1:=hs1.lt;have hw1:=hf1.size)|(go_at_call 41;refine(skip_ok hps1 hm2).mono ?_;rintro e w2 ⟨rfl,a2,rfl,hps2,hf2⟩;clear hm2;have hB2:=hB.fr hf2 (by simp;omega);obtain⟨rc,rz,rset,rb⟩:=hB2.rules;simp only[ncells]at rc rset;have hw2:=hf2.size)|(go_at_call 39;refine(node_any _ _ _ _ _ ⟨_,_,_,rfl⟩).mono ?_;rintro e w9 ⟨rfl,rfl⟩)|(go_at_call 153;refine(end_er (hps2.fr (((Fr.refl [] _).alloc _).alloc _)) hm).mono ?_;rintro e w4 ⟨rfl,hf4⟩))
    exact⟨rfl,rfl,(((hf1.trans hf2).alloc _).alloc _).trans hf4⟩
   | ok p =>
    obtain⟨T,ts'⟩:=p
    go_enter Tryz.func152,Tryz.ntmps152
    go_wp2_with (first|(go_at_call 154;refine(c1 _ h).mono ?_;rintro e w1 ⟨b1,a1,rfl,rfl,hps1,hf1,hs1⟩;clear c1;obtain⟨z,vk,bs,hB,hrow,hvk,hkids⟩:=hs1.open;obtain⟨kc,kz,kset,kb⟩:=hB.rules;simp only[ncells]at kc kset;have hlt1:=hs1.lt;have hw1:=hf1.size)|(go_at_call 41;refine(skip_ok hps1 hm2).mono ?_;rintro e w2 ⟨rfl,a2,rfl,hps2,hf2⟩;clear hm2;have hB2:=hB.fr hf2 (by simp;omega);obtain⟨rc,rz,rset,rb⟩:=hB2.rules;simp only[ncells]at rc rset;have hw2:=hf2.size)|(go_at_call 39;refine(node_any _ _ _ _ _ ⟨_,_,_,rfl⟩).mono ?_;rintro e w9 ⟨rfl,rfl⟩)|(go_at_call 153;refine(end_ok (lo:=w.heap.size) (hps2.fr (((Fr.refl [] _).alloc _).alloc _)) (by simpa[ncells,ptrs,ptrV,leaf] using(Kids.one (hs1.fr hf2 (by simp;omega) (Nat.le_refl _)) hw2).made ⟨17,n.at',0,[],0,0⟩ 0 (by simp) (by omega)) (by omega) (by simp) hm).mono ?_;rintro e w4 ⟨b4,a4,rfl,rfl,hps4,hf4,hs4⟩))
    go_ret
    exact⟨b4,a4,rfl,rfl,hps4,(((hf1.trans hf2).alloc _).alloc _).trans hf4,hs4⟩
  simp only[if_true]at hm
  obtain⟨e,hm3,rfl⟩|⟨V,ts3,hm3,hm⟩:=bind_some hm
  ·go_enter Tryz.func152,Tryz.ntmps152
   go_wp2_with (first|(go_at_call 154;refine(c1 _ h).mono ?_;rintro e w1 ⟨b1,a1,rfl,rfl,hps1,hf1,hs1⟩;clear c1;obtain⟨z,vk,bs,hB,hrow,hvk,hkids⟩:=hs1.open;obtain⟨kc,kz,kset,kb⟩:=hB.rules;simp only[ncells]at kc kset;have hlt1:=hs1.lt;have hw1:=hf1.size)|(go_at_call 41;refine(skip_ok hps1 hm2).mono ?_;rintro e w2 ⟨rfl,a2,rfl,hps2,hf2⟩;clear hm2;have hB2:=hB.fr hf2 (by simp;omega);obtain⟨rc,rz,rset,rb⟩:=hB2.rules;simp only[ncells]at rc rset;have hw2:=hf2.size)|(go_at_call 154;refine(ihe _ _ _ hps2 hm3).mono ?_;rintro e w3 ⟨rfl,hf3⟩))
   exact⟨rfl,rfl,(hf1.trans hf2).trans hf3⟩
  cases res with
  | error f =>
   go_enter Tryz.func152,Tryz.ntmps152
   go_wp2_with (first|(go_at_call 154;refine(c1 _ h).mono ?_;rintro e w1 ⟨b1,a1,rfl,rfl,hps1,hf1,hs1⟩;clear c1;obtain⟨z,vk,bs,hB,hrow,hvk,hkids⟩:=hs1.open;obtain⟨kc,kz,kset,kb⟩:=hB.rules;simp only[ncells]at kc kset;have hlt1:=hs1.lt;have hw1:=hf1.size)|(go_at_call 41;refine(skip_ok hps1 hm2).mono ?_;rintro e w2 ⟨rfl,a2,rfl,hps2,hf2⟩;clear hm2;have hB2:=hB.fr hf2 (by simp;omega);obtain⟨rc,rz,rset,rb⟩:=hB2.rules;simp only[ncells]at rc rset;have hw2:=hf2.size)|(go_at_call 154;refine(ihe _ _ _ hps2 hm3).mono ?_;rintro e w3 ⟨b3,a3,rfl,rfl,hps3,hf3,hs3⟩;clear hm3;have hB3:=hB2.fr hf3 (by simp;omega);obtain⟨sc,sz,sset,sb⟩:=hB3.rules;simp only[ncells]at sc sset;have hw3:=hf3.size)|(go_at_call 39;refine(node_any _ _ _ _ _ ⟨_,_,_,rfl⟩).mono ?_;rintro e w9 ⟨rfl,rfl⟩))
   go_region_held2 (fun X=>X.cell? ⟨b1,1,none⟩=some (.int .i64 n.at')∧X.cell? ⟨b1,3,none⟩=some (.string ⟨n.text.toArray⟩)) (first|go_keep|(refine⟨?_,?_⟩<;>rw[sc]<;>rfl)|exact False.elim hF.out) (first|(go_at_call 39;refine(node_any _ _ _ _ _ ⟨_,_,_,rfl⟩).mono ?_;rintro e w9 ⟨rfl,rfl⟩)|(go_at_call 153;refine(Calls.or_dead (end_er (hps3.fr ((((Fr.refl [] _).drew).alloc _).alloc _)) hm)).mono ?_;rintro e w4 (⟨rfl,hf4⟩|⟨rfl,hF⟩);exact⟨rfl,rfl,(((hf1.trans hf2).trans hf3).drew.alloc _).alloc _ |>.trans hf4⟩))
   exact False.elim hF.out
  | ok p =>
   obtain⟨T,ts'⟩:=p
   go_enter Tryz.func152,Tryz.ntmps152
   go_wp2_with (first|(go_at_call 154;refine(c1 _ h).mono ?_;rintro e w1 ⟨b1,a1,rfl,rfl,hps1,hf1,hs1⟩;clear c1;obtain⟨z,vk,bs,hB,hrow,hvk,hkids⟩:=hs1.open;obtain⟨kc,kz,kset,kb⟩:=hB.rules;simp only[ncells]at kc kset;have hlt1:=hs1.lt;have hw1:=hf1.size)|(go_at_call 41;refine(skip_ok hps1 hm2).mono ?_;rintro e w2 ⟨rfl,a2,rfl,hps2,hf2⟩;clear hm2;have hB2:=hB.fr hf2 (by simp;omega);obtain⟨rc,rz,rset,rb⟩:=hB2.rules;simp only[ncells]at rc rset;have hw2:=hf2.size)|(go_at_call 154;refine(ihe _ _ _ hps2 hm3).mono ?_;rintro e w3 ⟨b3,a3,rfl,rfl,hps3,hf3,hs3⟩;clear hm3;have hB3:=hB2.fr hf3 (by simp;omega);obtain⟨sc,sz,sset,sb⟩:=hB3.rules;simp only[ncells]at sc sset;have hw3:=hf3.size)|(go_at_call 39;refine(node_any _ _ _ _ _ ⟨_,_,_,rfl⟩).mono ?_;rintro e w9 ⟨rfl,rfl⟩))
   have hfa:=(hf1.trans hf2).trans hf3
   go_region_held3 (fun X=>X.cell? ⟨b1,1,none⟩=some (.int .i64 n.at')∧X.cell? ⟨b1,3,none⟩=some (.string ⟨n.text.toArray⟩)) (first|go_keep|(refine⟨?_,?_⟩<;>rw[sc]<;>rfl)|(refine⟨?_,?_⟩<;>rw[uc]<;>rfl)) (first|(go_at_call 39;refine(node_any _ _ _ _ _ ⟨_,_,_,rfl⟩).mono ?_;rintro e w9 ⟨rfl,rfl⟩)|(go_at_call 153;refine(end_ok (lo:=w.heap.size) (hps3.fr ((((Fr.refl [] _).drew).alloc _).alloc _)) (by simpa[ncells,ptrs,ptrV,leaf] using(Kids.one (show Sp w3.drew w.heap.size w3.heap.size b3 V from(hs3.wide (lo':=w.heap.size) (by omega) (Nat.le_refl _)).keep (w':=w3.drew) (fun _ _ _=>rfl) (Nat.le_refl _) (Nat.le_refl _)) (Nat.le_refl _)).made ⟨7,n.at',0,n.text,0,0⟩ 0 (by simp) (by have:=hfa.size;simpa using this)) (by omega) (by simp) hm).mono ?_;rintro e w4 ⟨b4,a4,rfl,rfl,hps4,hf4,hs4⟩;obtain⟨uc,uz,uset,ub⟩:=(((show Blk w3.drew b1 _ _ from hB3).alloc _ |>.alloc _).fr hf4 (by simp;omega)).rules;simp only[ncells]at uc))
   go_wp2
   go_ret
   exact⟨b4,a4,rfl,rfl,hps4,((hfa.drew.alloc _).alloc _).trans hf4,hs4⟩
theorem Sps.re' {w:World} {hi b b':Nat} {g g':Option Nat}:∀{ks:List Tree} {bs:List Nat} {lo:Nat},(b'<lo∨hi≤b')→(∀k,g'=some k→k<lo∨hi≤k)→Sps w lo hi b g bs ks→Sps w lo hi b' g' bs ks
 | [],bs,lo,hb,hg,h=>by simp only[Sps]at h ⊢;exact h
 | t::ts,bs,lo,hb,hg,h=>by
  have hle:=h.le (lo:=0)
  simp only[Sps]at h ⊢
  obtain⟨x,xs,l,hh,e,a1,a2,a3,a4,a5,a6,a7⟩:=h
  have hle2:=a7.le (lo:=0)
  exact⟨x,xs,l,hh,e,a1,a2,a3,by omega,fun k hk=>by have:=hg k hk;omega,a6,Sps.re' (by omega) (fun k hk=>by have:=hg k hk;omega) a7⟩
theorem Sps.reg {w:World} {hi b:Nat} {g g':Option Nat} (hg:∀k,g'=some k→g=some k∨hi≤k):∀{ks:List Tree} {bs:List Nat} {lo:Nat},Sps w lo hi b g bs ks→Sps w lo hi b g' bs ks
 | [],bs,lo,h=>by simp only[Sps]at h ⊢;exact h
 | t::ts,bs,lo,h=>by
  simp only[Sps]at h ⊢
  obtain⟨x,xs,l,hh,e,a1,a2,a3,a4,a5,a6,a7⟩:=h
  exact⟨x,xs,l,hh,e,a1,a2,a3,a4,fun k hk=>(hg k hk).elim (a5 k) (fun h1=>.inr (by omega)),a6,Sps.reg hg a7⟩
theorem Sps.append {w:World} {hi hi' hi2 b:Nat} {g:Option Nat} {xs:List Nat} {Ts:List Tree} (hh:hi≤hi') (h2:Sps w hi' hi2 b g xs Ts):∀{ks:List Tree} {bs:List Nat} {lo:Nat},Sps w lo hi b g bs ks→Sps w lo hi2 b g (bs++xs) (ks++Ts)
 | [],bs,lo,h=>by
  simp only[Sps]at h
  obtain⟨rfl,h1⟩:=h
  simpa using h2.wide (by omega) (Nat.le_refl _)
 | t::ts,bs,lo,h=>by
  simp only[Sps]at h
  obtain⟨x,ys,l,hh',rfl,a1,a2,a3,a4,a5,a6,a7⟩:=h
  have:=h2.le (lo:=0)
  simp only[List.cons_append,Sps]
  exact⟨x,ys++xs,l,hh',rfl,a1,a2,by omega,a4,a5,a6,Sps.append hh h2 a7⟩
theorem Gr.pushL {S:List Nat} {w w2 w3:World} {lo c g' cap':Nat} {n:Ck.Node} {bs xs:List Nat} {ks Ts:List Tree} {vk:Value} {o:Obj} (h:Gr w lo c n bs ks vk) (hf:Fr S w w2) (hS:∀x∈S,x<lo) (ht:Kids w2 w.heap.size xs Ts)
  (hown:w3.ownsRow (c+1) 55 1 (.slice (some ⟨g',0,none⟩) (ks.length+Ts.length) cap') (ks.length+Ts.length) (ptrs bs++ptrs xs)) (hg:(w2.alloc o).grownBy w3 vk.ownBlock) (hat:vk.ownBlock=some g'∨w2.heap.size≤g') :
  Gr (Ck.blk w3 c (ncells n 0 (.slice (some ⟨g',0,none⟩) (ks.length+Ts.length) cap')) 90) lo c n (bs++xs) (ks++Ts) (.slice (some ⟨g',0,none⟩) (ks.length+Ts.length) cap'):=by
 have h2:=h.fr hf hS
 have hc:=h.blk.lt
 have hz:=hf.size
 have hlo:=h.lo
 have hz3:=hg.size
 simp only[World.size_alloc]at hz3
 obtain⟨hi,k1,k2⟩:=h.kids
 obtain⟨hi2,j1,j2⟩:=ht
 have hlt:∀k,vk.ownBlock=some k→c+1≤k∧k<w.heap.size:=fun k hk=>h.row.lt k hk
 have hle:=j2.le (lo:=0)
 have k3:Sps w2 lo hi c vk.ownBlock bs ks:=k2.keep (fun k q1 q2=>hf.block k (by omega) (fun hm=>by have:=hS k hm;omega)) (Nat.le_refl _) (Nat.le_refl _)
 have hX:∀k,k<w2.heap.size→k≠c→vk.ownBlock≠some k→(Ck.blk w3 c (ncells n 0 (.slice (some ⟨g',0,none⟩) (ks.length+Ts.length) cap')) 90).heap[k]? = w2.heap[k]?:=fun k q2 q3 q4=>by
  rw[blk_heap_other q3,hg.block k (by simp;omega) (fun e=>q4 e.symm)]
  exact Below.heap_alloc w2 o k (by omega)
 have k3':=Sps.keepx k3 (fun k q1 q2 q3 q4=>hX k (by omega) q3 q4)
 have ht':=j2.keep (fun k q1 q2=>hX k (by omega) (by omega) (fun e=>by have:=hlt k e;omega)) (Nat.le_refl _) (Nat.le_refl _)
 have hgg:∀k,(Value.slice (some ⟨g',0,none⟩) (ks.length+Ts.length) cap').ownBlock=some k→g'=k:=fun k e=>by simpa[Value.ownBlock]using e
 refine⟨Blk.blk (by omega),by simpa[ptrs]using owns_blk hown (by omega),⟨hi2,by rw[blk_size];omega,?_⟩,hlo⟩
 have hg5:∀k,(Value.slice (some ⟨g',0,none⟩) (ks.length+Ts.length) cap').ownBlock=some k→k<w.heap.size∨hi2≤k:=fun k e=>by
  have:=hgg k e
  rcases hat with h1|h1
  ·exact .inl (by have:=hlt _ h1;omega)
  ·exact .inr (by omega)
 have k5:=Sps.re' (b':=c) (.inl (by omega)) hg5 ht'
 refine Sps.append k1 k5 (Sps.reg (fun k e=>?_) k3')
 have:=hgg k e
 rcases hat with h1|h1
 ·exact .inl (by rw[h1,this])
 ·exact .inr (by omega)
theorem Gr.stepL {S:PSt} {w w1 w2 w3:World} {a0 a2 c g' cap':Nat} {n:Ck.Node} {bs xs:List Nat} {ks Ts:List Tree} {vk:Value} {o:Obj} (h0:PS S a0 w) (h:Gr w1 w.heap.size c n bs ks vk) (hf1:Fr [S.bp] w w1) (hf2:Fr [S.bp] w1 w2)
  (hps:PS S a2 w2) (ht:Kids w2 w1.heap.size xs Ts)
  (hown:w3.ownsRow (c+1) 55 1 (.slice (some ⟨g',0,none⟩) (ks.length+Ts.length) cap') (ks.length+Ts.length) (ptrs bs++ptrs xs)) (hg:(w2.alloc o).grownBy w3 vk.ownBlock) (hat:vk.ownBlock=some g'∨g'=(w2.alloc o).heap.size) :
  PS S a2 (Ck.blk w3 c (ncells n 0 (.slice (some ⟨g',0,none⟩) (ks.length+Ts.length) cap')) 90)∧Fr [S.bp] w (Ck.blk w3 c (ncells n 0 (.slice (some ⟨g',0,none⟩) (ks.length+Ts.length) cap')) 90) ∧
  Gr (Ck.blk w3 c (ncells n 0 (.slice (some ⟨g',0,none⟩) (ks.length+Ts.length) cap')) 90) w.heap.size c n (bs++xs) (ks++Ts) (.slice (some ⟨g',0,none⟩) (ks.length+Ts.length) cap'):=by
 have hbp:=h0.blk.lt
 have hlo:=h.lo
 have hlt:=h.row.lt
 have hF:Fr [S.bp] w (Ck.blk w3 c (ncells n 0 (.slice (some ⟨g',0,none⟩) (ks.length+Ts.length) cap')) 90) :=
  (((hf1.trans hf2).alloc _).grown hg (fun k e=>.inr (by have:=(hlt k e).1;omega))).blk (.inr hlo) _ _
 refine⟨h0.go hF ?_ hps.ha,hF,Gr.pushL h hf2 (by simp;omega) ht hown hg (hat.imp id (fun e=>by rw[e];simp))⟩
 refine Blk.blk_other ((hps.blk.alloc _).grown hg (fun e=>?_)) (by omega)
 have:=(hlt _ e).1;omega
theorem Calls.dead {P:Program} {n:Nat} {args:Array Value} {w:World} {S:PSt} {w0:World} {f:Flt} (h:Calls P n args w (Er S w0 f)) (T:Tree) (ts:TS):Calls P n args w fun e w'=>Er S w0 f e w'∨(Hid False∧OkT S w0 w0.heap.size T ts e w') :=
 h.mono fun _ _ hE=>.inl hE
theorem choice_any {S:PSt} {r:Rec} (ihe:MAny 154 S r.expr) (ihb:MAny 73 S r.block) (ihc:MAny 155 S r.choice):MAny 155 S (pChoice S.F r):=by
 intro a w res h hm
 have hbp:=h.blk.lt
 obtain⟨i0,hi,hz0,hz1,hz2⟩:=info_parts Tryz.infoSprout
 unfold pChoice at hm
 obtain⟨e,hm1,rfl⟩|⟨at',ts1,hm1,hm⟩:=bind_some hm
 ·go_enter Tryz.func155,Tryz.ntmps155
  go_wp2_with (go_at_call 43;refine(must_er h hm1).mono ?_;rintro e w1 ⟨rfl,hf1⟩)
  exact⟨rfl,rfl,hf1⟩
 go_enter Tryz.func155,Tryz.ntmps155
 go_wp2_with (first|(go_at_call 43;refine(must_ok h hm1).mono ?_;rintro e w1 ⟨rfl,a1,rfl,hps1,hf1⟩;clear hm1)|(go_at_call 39;refine(node_any _ _ _ _ _ ⟨_,_,_,rfl⟩).mono ?_;rintro e w9 ⟨rfl,rfl⟩))
 have hw1:=hf1.size
 obtain⟨c,hc⟩:∃c,Hid (c=w1.heap.size):=⟨_,rfl⟩
 obtain⟨W0,hW0⟩:∃X,X=w1.alloc (.cells (ncells ⟨9,at',0,[],0,0⟩ 0 (.slice none 0 0)) 90):=⟨_,rfl⟩
 have hG:=Gr.new w1 w.heap.size ⟨9,at',0,[],0,0⟩ hw1
 have hps0:=hps1.fr ((Fr.refl [] _).alloc (.cells (ncells ⟨9,at',0,[],0,0⟩ 0 (.slice none 0 0)) 90))
 have hf0:=hf1.alloc (.cells (ncells ⟨9,at',0,[],0,0⟩ 0 (.slice none 0 0)) 90)
 rw[←hW0]at hG hps0 hf0
 simp only[ncells]at hW0
 rw[←hW0]
 rw[←hc.out]at hG ⊢
 clear hW0 hc hps1 hf1 hw1
 obtain⟨ks,hks⟩:∃ks,Hid (ks=([]:List Tree)):=⟨_,rfl⟩
 obtain⟨bs,hbs⟩:∃bs,Hid (bs=([]:List Nat)):=⟨_,rfl⟩
 obtain⟨vk,hvk⟩:∃vk:Value,Hid (vk=.slice none 0 0):=⟨_,rfl⟩
 have hkl:ks.length≤8:=by rw[hks.out];simp
 have hG1:Gr W0 w.heap.size c ⟨9,at',0,[],0,0⟩ bs ks vk:=by rw[hks.out,hbs.out,hvk.out];exact hG
 clear hG hvk
 have hbw:=hf0.size
 obtain⟨kc,kz,kset,kb⟩:=hG1.blk.rules
 simp only[ncells]at kc kset
 obtain⟨e,hm2,rfl⟩|⟨E,ts2,hm2,hm⟩:=bind_some hm
 ·go_region_dies
  all_goals (go_at_call 154;refine(ihe _ _ _ (hps0.fr (Fr.refl [] _).drew) hm2).mono ?_;rintro e w2 ⟨rfl,hf2⟩)
  all_goals exact⟨rfl,rfl,(hf0.drew).trans hf2⟩
 obtain⟨e,hm3,rfl⟩|⟨B,ts3,hm3,hm⟩:=bind_some hm
 ·go_region_law (first|(refine step_append_lies _ rfl _ _ 88 rfl (c+1) 55 i0 (.pointer none) 1 8 Tryz.underlying88 hi hz0 hz1 hz2 rfl (by decide) vk ks.length (ptrs bs) rfl (by exact ownsRow_fr hG3.row ((Fr.refl [] _).alloc _) (by simp)) ⟨w3.heap.size,0,none⟩ 2 2 [ptrV b2,ptrV b3] rfl rfl (World.news_of_block (Blk.new _ _ _)) (by simp[Value.oneCell',ptrV]) (by omega) (by simp[maxLen];omega) (by omega) (by have:=hG3.blk.lt;simp;omega) _ rfl ?_;intro g' cap' w8 hown8 hg8 hat8 hlt8;obtain⟨qc,qz,qset,qb⟩:=((hG3.blk.alloc _).grown hg8 (fun e=>by have:=(hG3.row.lt _ e).1;omega)).rules;simp only[ncells]at qc qset)|(go_simp;go_at_call 154;refine(ihe _ _ _ (hps0.fr (Fr.refl [] _).drew) hm2).mono ?_;rintro e w2 ⟨b2,a2,rfl,rfl,hps2,hf2,hs2⟩;have hG2:=(hG1.fr (Fr.refl [] _).drew (by simp)).fr hf2 (by simp;omega);obtain⟨rc,rz,rset,rb⟩:=hG2.blk.rules;simp only[ncells]at rc rset;have hw2:=hf2.size)|(go_simp;go_at_call 73;refine(Calls.dead (ihb _ _ _ hps2 hm3) E []).mono ?_;rintro e w3 (⟨rfl,hf3⟩|⟨hF,b3,a3,rfl,hts,hps3,hf3,hs3⟩);exact⟨rfl,rfl,((hf0.drew).trans hf2).trans hf3⟩;have hG3:=hG2.fr hf3 (by simp;omega);obtain⟨sc,sz,sset,sb⟩:=hG3.blk.rules;simp only[ncells]at sc sset))
  all_goals exact False.elim hF.out
 have HM:=Lib.hid hm;clear hm
 go_cut [] (fun W=>Hid (∃bs vk a,ts3=S.ts a∧PS S a W∧Fr [S.bp] w W∧Gr W w.heap.size c ⟨9,at',0,[],0,0⟩ bs [E,B] vk))
 case first =>
  go_region_law (first|(refine step_append_lies _ rfl _ _ 88 rfl (c+1) 55 i0 (.pointer none) 1 8 Tryz.underlying88 hi hz0 hz1 hz2 rfl (by decide) vk ks.length (ptrs bs) rfl (by exact ownsRow_fr hG3.row ((Fr.refl [] _).alloc _) (by simp)) ⟨w3.heap.size,0,none⟩ 2 2 [ptrV b2,ptrV b3] rfl rfl (World.news_of_block (Blk.new _ _ _)) (by simp[Value.oneCell',ptrV]) (by omega) (by simp[maxLen];omega) (by omega) (by have:=hG3.blk.lt;simp;omega) _ rfl ?_;intro g' cap' w8 hown8 hg8 hat8 hlt8;obtain⟨qc,qz,qset,qb⟩:=((hG3.blk.alloc _).grown hg8 (fun e=>by have:=(hG3.row.lt _ e).1;omega)).rules;simp only[ncells]at qc qset)|(go_simp;go_at_call 154;refine(ihe _ _ _ (hps0.fr (Fr.refl [] _).drew) hm2).mono ?_;rintro e w2 ⟨b2,a2,rfl,rfl,hps2,hf2,hs2⟩;have hG2:=(hG1.fr (Fr.refl [] _).drew (by simp)).fr hf2 (by simp;omega);obtain⟨rc,rz,rset,rb⟩:=hG2.blk.rules;simp only[ncells]at rc rset;have hw2:=hf2.size)|(go_simp;go_at_call 73;refine(ihb _ _ _ hps2 hm3).mono ?_;rintro e w3 ⟨b3,a3,rfl,rfl,hps3,hf3,hs3⟩;have hG3:=hG2.fr hf3 (by simp;omega);obtain⟨sc,sz,sset,sb⟩:=hG3.blk.rules;simp only[ncells]at sc sset))
  all_goals
   go_wp2
   go_meet
   case rel =>
    have hK:Kids w3 W0.heap.size [b2,b3] [E,B]:=(Kids.one (show Sp w2 W0.heap.size w2.heap.size b2 E from hs2) (Nat.le_refl _)).snoc hf3 (by simp;omega) hs3
    obtain⟨q1,q2,q3⟩:=Gr.stepL h hG1 hf0 (show Fr [S.bp] W0 w3 from((Fr.refl _ _).drew.trans hf2).trans hf3) hps3 hK hown8 hg8 hat8
    rw[hks.out,hbs.out]at q3
    exact⟨_,_,a3,rfl,by simpa[ncells,hks.out]using q1,by simpa[ncells,hks.out]using q2,by simpa[ncells,hks.out]using q3⟩
 case rest =>
  clear hG1 hps0 hf0 hks hbs hkl kc kz kset kb hbw hm2 hm3
  obtain⟨bs,vk,a,hts,hps0,hf0,hG1⟩:=hcut.out
  clear hcut
  subst hts
  have hm:=HM.out
  obtain⟨ks,hks⟩:∃ks,Hid (ks=[E,B]):=⟨_,rfl⟩
  have hkl:ks.length≤8:=by rw[hks.out];simp
  rw[←hks.out]at hG1
  have hbw:=hf0.size
  obtain⟨e,hm4,rfl⟩|⟨q,ts4,hm4,hm⟩:=bind_some hm
  ·go_wp2_with (go_at_call 41;refine(skip_er hps0 hm4).mono ?_;rintro e w4 ⟨rfl,hf4⟩)
   exact⟨rfl,rfl,hf0.trans hf4⟩
  cases q
  ·simp only[Bool.false_eq_true,if_false,pure_eq,Option.some.injEq]at hm
   subst hm
   go_wp2_with (go_at_call 41;refine(skip_ok hps0 hm4).mono ?_;rintro e w4 ⟨rfl,a4,rfl,hps4,hf4⟩;clear hm4)
   go_ret
   have hs:=(hG1.fr hf4 (by simp;omega)).sp
   rw[hks.out]at hs
   exact⟨c,a4,rfl,rfl,hps4,hf0.trans hf4,hs⟩
  simp only[if_true]at hm
  have hv:∀W:World,StrSlice (W.alloc (.cells #[.string ⟨#[105,102]⟩] 9)) (.slice (some ⟨W.heap.size,0,none⟩) 1 1) [[105,102]]:=fun W=>str1 W [105,102]
  obtain⟨e,hm5,rfl⟩|⟨p,ts5,hm5,hm⟩:=bind_some hm
  ·go_wp2_with (first|(go_at_call 41;refine(skip_ok hps0 hm4).mono ?_;rintro e w4 ⟨rfl,a4,rfl,hps4,hf4⟩;clear hm4)|(go_at_call 72;refine(sees_er (hps4.fr ((Fr.refl [] _).alloc _)) (hv _) (by simp) hm5).mono ?_;rintro e w5 ⟨rfl,hf5⟩))
   exact⟨rfl,rfl,((hf0.trans hf4).alloc _).trans hf5⟩
  cases p
  ·simp only[Bool.false_eq_true,if_false,if_true]at hm
   go_wp2_with (first|(go_at_call 41;refine(skip_ok hps0 hm4).mono ?_;rintro e w4 ⟨rfl,a4,rfl,hps4,hf4⟩;clear hm4)|(go_at_call 72;refine(sees_ok (hps4.fr ((Fr.refl [] _).alloc _)) (hv _) (by simp) hm5).mono ?_;rintro e w5 ⟨rfl,rfl,hps5,hf5⟩;clear hm5))
   have hG5:=(hG1.fr hf4 (by simp;omega)).fr (((Fr.refl [] w4).alloc (.cells #[.string ⟨#[105,102]⟩] 9)).trans hf5) (by simp)
   have hf6:Fr [S.bp] w w5:=(hf0.trans hf4).trans (((Fr.refl [] w4).alloc (.cells #[.string ⟨#[105,102]⟩] 9)).trans hf5).nil
   clear hG1 hps4 hps0 hf0 hf4 hf5 HM
   have hbw5:=hf6.size
   obtain⟨kc,kz,kset,kb⟩:=hG5.blk.rules
   simp only[ncells]at kc kset
   obtain⟨e,hm6,rfl⟩|⟨C,ts6,hm6,hm⟩:=bind_some hm
   ·go_region_dies
    all_goals (go_at_call 73;refine(ihb _ _ _ (hps5.fr (Fr.refl [] _).drew) hm6).mono ?_;rintro e w2 ⟨rfl,hf2⟩)
    all_goals exact⟨rfl,rfl,(hf6.drew).trans hf2⟩
   rw[pure_eq]at hm
   simp only[Option.some.injEq]at hm
   subst hm
   go_region_law (first|(refine step_append_lies _ rfl _ _ 88 rfl (c+1) 55 i0 (.pointer none) 1 8 Tryz.underlying88 hi hz0 hz1 hz2 rfl (by decide) vk ks.length (ptrs bs) rfl (by exact ownsRow_fr hG2.row ((Fr.refl [] _).alloc _) (by simp)) ⟨w2.heap.size,0,none⟩ 1 1 [ptrV b2] rfl rfl (World.news_of_block (Blk.new _ _ _)) (by simp[Value.oneCell',ptrV]) (by omega) (by simp[maxLen];omega) (by omega) (by have:=hG2.blk.lt;simp;omega) _ rfl ?_;intro g' cap' w8 hown8 hg8 hat8 hlt8;obtain⟨qc,qz,qset,qb⟩:=((hG2.blk.alloc _).grown hg8 (fun e=>by have:=(hG2.row.lt _ e).1;omega)).rules;simp only[ncells]at qc qset)|(go_simp;go_at_call 73;refine(ihb _ _ _ (hps5.fr (Fr.refl [] _).drew) hm6).mono ?_;rintro e w2 ⟨b2,a2,rfl,rfl,hps2,hf2,hs2⟩;have hG2:=(hG5.fr (Fr.refl [] _).drew (by simp)).fr hf2 (by simp;omega);obtain⟨rc,rz,rset,rb⟩:=hG2.blk.rules;simp only[ncells]at rc rset))
   all_goals
    go_wp2
    go_ret
    have hK:Kids w2 w5.heap.size [b2] [C]:=Kids.one (show Sp w2 w5.heap.size w2.heap.size b2 C from hs2) (Nat.le_refl _)
    obtain⟨q1,q2,q3⟩:=Gr.stepL h hG5 hf6 (show Fr [S.bp] w5 w2 from(Fr.refl _ _).drew.trans hf2) hps2 hK hown8 hg8 hat8
    have hs:=q3.sp
    rw[hks.out]at q1 q2 hs
    exact⟨c,a2,rfl,rfl,by simpa[ncells,hks.out]using q1,by simpa[ncells,hks.out]using q2,by simpa[ncells,hks.out,leaf]using hs⟩
  ·simp only[Bool.false_eq_true,if_false,if_true]at hm
   go_wp2_with (first|(go_at_call 41;refine(skip_ok hps0 hm4).mono ?_;rintro e w4 ⟨rfl,a4,rfl,hps4,hf4⟩;clear hm4)|(go_at_call 72;refine(sees_ok (hps4.fr ((Fr.refl [] _).alloc _)) (hv _) (by simp) hm5).mono ?_;rintro e w5 ⟨rfl,rfl,hps5,hf5⟩;clear hm5))
   have hG5:=(hG1.fr hf4 (by simp;omega)).fr (((Fr.refl [] w4).alloc (.cells #[.string ⟨#[105,102]⟩] 9)).trans hf5) (by simp)
   have hf6:Fr [S.bp] w w5:=(hf0.trans hf4).trans (((Fr.refl [] w4).alloc (.cells #[.string ⟨#[105,102]⟩] 9)).trans hf5).nil
   clear hG1 hps4 hps0 hf0 hf4 hf5 HM
   have hbw5:=hf6.size
   obtain⟨kc,kz,kset,kb⟩:=hG5.blk.rules
   simp only[ncells]at kc kset
   obtain⟨e,hm6,rfl⟩|⟨C,ts6,hm6,hm⟩:=bind_some hm
   ·go_region_dies
    all_goals (go_at_call 155;refine(ihc _ _ _ (hps5.fr (Fr.refl [] _).drew) hm6).mono ?_;rintro e w2 ⟨rfl,hf2⟩)
    all_goals exact⟨rfl,rfl,(hf6.drew).trans hf2⟩
   rw[pure_eq]at hm
   simp only[Option.some.injEq]at hm
   subst hm
   go_region_law (first|(refine step_append_lies _ rfl _ _ 88 rfl (c+1) 55 i0 (.pointer none) 1 8 Tryz.underlying88 hi hz0 hz1 hz2 rfl (by decide) vk ks.length (ptrs bs) rfl (by exact ownsRow_fr hG2.row ((Fr.refl [] _).alloc _) (by simp)) ⟨w2.heap.size,0,none⟩ 1 1 [ptrV b2] rfl rfl (World.news_of_block (Blk.new _ _ _)) (by simp[Value.oneCell',ptrV]) (by omega) (by simp[maxLen];omega) (by omega) (by have:=hG2.blk.lt;simp;omega) _ rfl ?_;intro g' cap' w8 hown8 hg8 hat8 hlt8;obtain⟨qc,qz,qset,qb⟩:=((hG2.blk.alloc _).grown hg8 (fun e=>by have:=(hG2.row.lt _ e).1;omega)).rules;simp only[ncells]at qc qset)|(go_simp;go_at_call 155;refine(ihc _ _ _ (hps5.fr (Fr.refl [] _).drew) hm6).mono ?_;rintro e w2 ⟨b2,a2,rfl,rfl,hps2,hf2,hs2⟩;have hG2:=(hG5.fr (Fr.refl [] _).drew (by simp)).fr hf2 (by simp;omega);obtain⟨rc,rz,rset,rb⟩:=hG2.blk.rules;simp only[ncells]at rc rset))
   all_goals
    go_wp2
    go_ret
    have hK:Kids w2 w5.heap.size [b2] [C]:=Kids.one (show Sp w2 w5.heap.size w2.heap.size b2 C from hs2) (Nat.le_refl _)
    obtain⟨q1,q2,q3⟩:=Gr.stepL h hG5 hf6 (show Fr [S.bp] w5 w2 from(Fr.refl _ _).drew.trans hf2) hps2 hK hown8 hg8 hat8
    have hs:=q3.sp
    rw[hks.out]at q1 q2 hs
    exact⟨c,a2,rfl,rfl,by simpa[ncells,hks.out]using q1,by simpa[ncells,hks.out]using q2,by simpa[ncells,hks.out,leaf]using hs⟩
def LabelAt (S:PSt) (w:World) (v:Value):Option Tok→Prop
 | none=>v=.pointer none
 | some l=>∃bt,v=.pointer (some ⟨bt,0,none⟩)∧Blk w bt #[.int .i64 l.kind,.int .i64 l.at',.string ⟨l.text.toArray⟩,.int .i64 l.int,.int .u64 l.bits] 82∧bt≠S.bp
abbrev LoopAny (S:PSt) (m:Option Tok→Ck.P Tree):Prop:=∀(l:Option Tok) (v:Value) (a:Nat) (w:World) (r:Except Flt (Tree × TS)),LabelAt S w v l→PS S a w→m l (S.ts a)=some r →
  Calls Tryz.prog 151 #[.pointer (some ⟨S.bp,0,none⟩),v] w (OutT S w w.heap.size r)
end Go.Proofs.YtoomapkcoibmhaaGreatDoor
end
