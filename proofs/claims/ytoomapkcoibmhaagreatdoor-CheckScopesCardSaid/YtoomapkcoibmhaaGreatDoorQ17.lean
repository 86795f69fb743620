/- A part of the proof. -/
import Derived.Test.YtoomapkcoibmhaaGreatDoorQ15
set_option maxRecDepth 100000
set_option maxHeartbeats 12800000
set_option linter.all false
section
open Go Go.Proofs Go.RowKit Go.Shelf Ck
namespace Go.Proofs.YtoomapkcoibmhaaGreatDoor
theorem leaf_at {W:World} {lo hi c:Nat} {n:Ck.Node} (h:Blk W c (ncells n 0 (.slice none 0 0)) 90) (h1:lo≤c) (h2:c<hi):Sp W lo hi c (.mk n []):=by
 simp only[Sp]
 exact⟨h1,h2,0,_,[],h,⟨rfl,.inl ⟨rfl,rfl⟩⟩,fun g e=>by simp[Value.ownBlock]at e,by simp only[Sps];exact⟨trivial,by omega⟩⟩
theorem statement_any {S:PSt} {r:Rec} (hsat:Sat Idx r.expr) (ihe:MAny 154 S r.expr) (ihc:MAny 155 S r.choice) (ihl:LoopAny S r.loop):MAny 103 S (pStatement S.F r):=by
 intro a w res h hm0
 have hbp:=h.blk.lt
 have hlim:=h.lim
 obtain⟨i0,hi,hz0,hz1,hz2⟩:=info_parts Tryz.infoSprout
 unfold pStatement at hm0
 obtain⟨e,hm1,rfl⟩|⟨t,ts1,hm1,hm⟩:=bind_some hm0
 ·go_enter Tryz.func103,Tryz.ntmps103
  go_wp2_with (go_at_call 40;refine(look_er h hm1).mono ?_;rintro e w1 ⟨rfl,hf1⟩)
  exact⟨rfl,rfl,hf1⟩
 have c1:=look_pk h hm1
 obtain rfl:ts1=S.ts a:=by rw[look_eq]at hm1;split at hm1<;>first|(cases hm1;rfl)|cases hm1
 clear hm1 hm0
 cases h1:t.kind==1
 ·simp only[h1,Bool.false_eq_true,if_false]at hm
  rw[bind_eq,P.bind,pure_eq]at hm
  simp only[Bool.false_eq_true,if_false]at hm
  cases h2:t.kind==2
  ·simp only[h2,Bool.false_eq_true,if_false]at hm
   cases res with
   | error f =>
    go_enter Tryz.func103,Tryz.ntmps103
    go_wp2_with (first|(go_at_call 40;refine c1.mono ?_;rintro e w1 ⟨rfl,ha,hps1,hf1,hpsA,hfA,kb',hpsB,hfB,hw1⟩;clear c1;obtain⟨kc,kz,kset,kb⟩:=hps1.blk.rules)|(go_at_call 152;refine(plain_any hsat ihe _ _ _ hpsB hm).mono ?_;rintro e w9 hO;obtain⟨rfl,hf9⟩:=hO))
    exact⟨rfl,rfl,(hfB).trans hf9⟩
   | ok p =>
    obtain⟨T,ts9⟩:=p
    go_enter Tryz.func103,Tryz.ntmps103
    go_wp2_with (first|(go_at_call 40;refine c1.mono ?_;rintro e w1 ⟨rfl,ha,hps1,hf1,hpsA,hfA,kb',hpsB,hfB,hw1⟩;clear c1;obtain⟨kc,kz,kset,kb⟩:=hps1.blk.rules)|(go_at_call 152;refine(plain_any hsat ihe _ _ _ hpsB hm).mono ?_;rintro e w9 hO;obtain⟨b9,a9,rfl,rfl,hps9,hf9,hs9⟩:=hO))
    go_ret
    exact⟨b9,a9,rfl,rfl,hps9,(hfB).trans hf9,hs9.wide (hfB).size (Nat.le_refl _)⟩
  ·simp only[h2,if_true]at hm
   cases xl:t.text==[108,101,116]
   case true =>
    simp only[xl,Bool.false_or,Bool.or_false,Bool.or_true,Bool.true_or,Bool.or_self,Bool.false_eq_true,if_false,if_true]at hm
    rw[bind_eq,P.bind,adv_eq]at hm
    simp only at hm
    obtain⟨e,hm2,rfl⟩|⟨n,ts2,hm2,hm⟩:=bind_some hm
    ·go_enter Tryz.func103,Tryz.ntmps103
     go_wp2_with (first|(go_at_call 40;refine c1.mono ?_;rintro e w1 ⟨rfl,ha,hps1,hf1,hpsA,hfA,kb',hpsB,hfB,hw1⟩;clear c1;obtain⟨kc,kz,kset,kb⟩:=hps1.blk.rules)|(go_at_call 42;refine(take_er hpsA hm2).mono ?_;rintro e w2 ⟨rfl,hf2⟩))
     exact⟨rfl,rfl,hfA.trans hf2⟩
    obtain⟨e,hm3,rfl⟩|⟨u,ts3,hm3,hm⟩:=bind_some hm
    ·go_enter Tryz.func103,Tryz.ntmps103
     go_wp2_with (first|(go_at_call 40;refine c1.mono ?_;rintro e w1 ⟨rfl,ha,hps1,hf1,hpsA,hfA,kb',hpsB,hfB,hw1⟩;clear c1;obtain⟨kc,kz,kset,kb⟩:=hps1.blk.rules)|(go_at_call 42;refine(take_ok hpsA hm2).mono ?_;rintro e w2 ⟨rfl,a2,rfl,hps2,hf2⟩;clear hm2;have hNB:=Blk.new w2 #[.int .i64 n.kind,.int .i64 n.at',.string ⟨n.text.toArray⟩,.int .i64 n.int,.int .u64 n.bits] 82;have hw2:=(hfA.trans hf2).size)|(go_at_call 43;refine(must_er (hps2.fr ((Fr.refl [] _).alloc (tokB n))) hm3).mono ?_;rintro e w3 ⟨rfl,hf3⟩))
     exact⟨rfl,rfl,((hfA.trans hf2).alloc (tokB n)).trans hf3⟩
    obtain⟨e,hm4,rfl⟩|⟨E,ts4,hm4,hm⟩:=bind_some hm
    ·go_enter Tryz.func103,Tryz.ntmps103
     go_wp2_with (first|(go_at_call 40;refine c1.mono ?_;rintro e w1 ⟨rfl,ha,hps1,hf1,hpsA,hfA,kb',hpsB,hfB,hw1⟩;clear c1;obtain⟨kc,kz,kset,kb⟩:=hps1.blk.rules)|(go_at_call 42;refine(take_ok hpsA hm2).mono ?_;rintro e w2 ⟨rfl,a2,rfl,hps2,hf2⟩;clear hm2;have hNB:=Blk.new w2 #[.int .i64 n.kind,.int .i64 n.at',.string ⟨n.text.toArray⟩,.int .i64 n.int,.int .u64 n.bits] 82;have hw2:=(hfA.trans hf2).size)|(go_at_call 43;refine(must_ok (hps2.fr ((Fr.refl [] _).alloc (tokB n))) hm3).mono ?_;rintro e w3 ⟨rfl,a3,rfl,hps3,hf3⟩;clear hm3;have hNB3:=hNB.fr hf3 (by simp;omega);obtain⟨nc,nz,nset,nb⟩:=hNB3.rules;have hf03:=((hfA.trans hf2).alloc (tokB n)).trans hf3;have hw3:=hf03.size))
     go_region_dies
     all_goals (go_at_call 154;refine(ihe _ _ _ (hps3.fr (Fr.refl [] _).drew) hm4).mono ?_;rintro e w4 ⟨rfl,hf4⟩)
     all_goals exact⟨rfl,rfl,(hf03.drew).trans hf4⟩
    cases res with
    | error f =>
     go_enter Tryz.func103,Tryz.ntmps103
     go_wp2_with (first|(go_at_call 40;refine c1.mono ?_;rintro e w1 ⟨rfl,ha,hps1,hf1,hpsA,hfA,kb',hpsB,hfB,hw1⟩;clear c1;obtain⟨kc,kz,kset,kb⟩:=hps1.blk.rules)|(go_at_call 42;refine(take_ok hpsA hm2).mono ?_;rintro e w2 ⟨rfl,a2,rfl,hps2,hf2⟩;clear hm2;have hNB:=Blk.new w2 #[.int .i64 n.kind,.int .i64 n.at',.string ⟨n.text.toArray⟩,.int .i64 n.int,.int .u64 n.bits] 82;have hw2:=(hfA.trans hf2).size)|(go_at_call 43;refine(must_ok (hps2.fr ((Fr.refl [] _).alloc (tokB n))) hm3).mono ?_;rintro e w3 ⟨rfl,a3,rfl,hps3,hf3⟩;clear hm3;have hNB3:=hNB.fr hf3 (by simp;omega);obtain⟨nc,nz,nset,nb⟩:=hNB3.rules;have hf03:=((hfA.trans hf2).alloc (tokB n)).trans hf3;have hw3:=hf03.size))
     go_region_held2 (fun X=>X.cell? ⟨w2.heap.size,1,none⟩=some (.int .i64 n.at')∧X.cell? ⟨w2.heap.size,2,none⟩=some (.string ⟨n.text.toArray⟩)) (first|go_keep|(refine⟨?_,?_⟩<;>rw[mc]<;>rfl)|exact False.elim hF.out) (first|(go_at_call 154;refine(ihe _ _ _ (hps3.fr (Fr.refl [] _).drew) hm4).mono ?_;rintro e w4 ⟨b4,a4,rfl,rfl,hps4,hf4,hs4⟩;have hNB4:=(show Blk w3.drew _ _ _ from hNB3).fr hf4 (by simp;omega);obtain⟨mc,mz,mset,mb⟩:=hNB4.rules;have hf04:=hf03.drew.trans hf4;have hw4:=hf4.size)|(go_at_call 39;refine(node_any _ _ _ _ _ ⟨_,_,_,rfl⟩).mono ?_;rintro e w9 ⟨rfl,rfl⟩)|(go_at_call 153;refine(Calls.or_dead (end_er (hps4.fr (((Fr.refl [] _).alloc _).alloc _)) hm)).mono ?_;rintro e w9 (⟨rfl,hf9⟩|⟨rfl,hF⟩);exact⟨rfl,rfl,(hf04.alloc _).alloc _ |>.trans hf9⟩))
     exact False.elim hF.out
    | ok p =>
     obtain⟨T,ts9⟩:=p
     go_enter Tryz.func103,Tryz.ntmps103
     go_wp2_with (first|(go_at_call 40;refine c1.mono ?_;rintro e w1 ⟨rfl,ha,hps1,hf1,hpsA,hfA,kb',hpsB,hfB,hw1⟩;clear c1;obtain⟨kc,kz,kset,kb⟩:=hps1.blk.rules)|(go_at_call 42;refine(take_ok hpsA hm2).mono ?_;rintro e w2 ⟨rfl,a2,rfl,hps2,hf2⟩;clear hm2;have hNB:=Blk.new w2 #[.int .i64 n.kind,.int .i64 n.at',.string ⟨n.text.toArray⟩,.int .i64 n.int,.int .u64 n.bits] 82;have hw2:=(hfA.trans hf2).size)|(go_at_call 43;refine(must_ok (hps2.fr ((Fr.refl [] _).alloc (tokB n))) hm3).mono ?_;rintro e w3 ⟨rfl,a3,rfl,hps3,hf3⟩;clear hm3;have hNB3:=hNB.fr hf3 (by simp;omega);obtain⟨nc,nz,nset,nb⟩:=hNB3.rules;have hf03:=((hfA.trans hf2).alloc (tokB n)).trans hf3;have hw3:=hf03.size))
     go_region_held2 (fun X=>X.cell? ⟨w2.heap.size,1,none⟩=some (.int .i64 n.at')∧X.cell? ⟨w2.heap.size,2,none⟩=some (.string ⟨n.text.toArray⟩)) (first|go_keep|(refine⟨?_,?_⟩<;>rw[mc]<;>rfl)|exact⟨he1,he2⟩) (first|(go_at_call 154;refine(ihe _ _ _ (hps3.fr (Fr.refl [] _).drew) hm4).mono ?_;rintro e w4 ⟨b4,a4,rfl,rfl,hps4,hf4,hs4⟩;have hNB4:=(show Blk w3.drew _ _ _ from hNB3).fr hf4 (by simp;omega);obtain⟨mc,mz,mset,mb⟩:=hNB4.rules;have hf04:=hf03.drew.trans hf4;have hw4:=hf4.size)|(go_at_call 39;refine(node_any _ _ _ _ _ ⟨_,_,_,rfl⟩).mono ?_;rintro e w9 ⟨rfl,rfl⟩)|(go_at_call 153;refine(end_ok (lo:=w.heap.size) (hps4.fr (((Fr.refl [] _).alloc _).alloc _)) (by simpa[ncells,ptrs,ptrV,leaf] using(Kids.one (show Sp w4 w.heap.size w4.heap.size b4 E from hs4.wide (by simpa using hw3) (Nat.le_refl _)) (Nat.le_refl _)).made ⟨6,n.at',0,n.text,0,0⟩ 0 (by simp) hf04.size) (by omega) (by simp) hm).mono ?_;rintro e w9 ⟨b9,a9,rfl,rfl,hps9,hf9,hs9⟩;have hfz:=(((Fr.refl [] w4).alloc _).alloc _).nil.trans hf9;have he1:=hfz.cell (show w4.cell? ⟨w2.heap.size,1,none⟩=some (.int .i64 n.at')by rw[mc];rfl) (by simp;omega);have he2:=hfz.cell (show w4.cell? ⟨w2.heap.size,2,none⟩=some (.string ⟨n.text.toArray⟩)by rw[mc];rfl) (by simp;omega)))
     go_wp2
     go_ret
     exact⟨b9,a9,rfl,rfl,hps9,((hf04.alloc _).alloc _).trans hf9,hs9⟩
   cases xi:t.text==[105,102]
   case true =>
    simp only[xl,xi,Bool.false_or,Bool.or_false,Bool.or_true,Bool.true_or,Bool.or_self,Bool.false_eq_true,if_false,if_true]at hm
    cases res with
    | error f =>
     go_enter Tryz.func103,Tryz.ntmps103
     go_wp2_with (first|(go_at_call 40;refine c1.mono ?_;rintro e w1 ⟨rfl,ha,hps1,hf1,hpsA,hfA,kb',hpsB,hfB,hw1⟩;clear c1;obtain⟨kc,kz,kset,kb⟩:=hps1.blk.rules)|(go_at_call 155;refine(ihc _ _ _ hpsB hm).mono ?_;rintro e w9 hO;obtain⟨rfl,hf9⟩:=hO))
     exact⟨rfl,rfl,(hfB).trans hf9⟩
    | ok p =>
     obtain⟨T,ts9⟩:=p
     go_enter Tryz.func103,Tryz.ntmps103
     go_wp2_with (first|(go_at_call 40;refine c1.mono ?_;rintro e w1 ⟨rfl,ha,hps1,hf1,hpsA,hfA,kb',hpsB,hfB,hw1⟩;clear c1;obtain⟨kc,kz,kset,kb⟩:=hps1.blk.rules)|(go_at_call 155;refine(ihc _ _ _ hpsB hm).mono ?_;rintro e w9 hO;obtain⟨b9,a9,rfl,rfl,hps9,hf9,hs9⟩:=hO))
     go_ret
     exact⟨b9,a9,rfl,rfl,hps9,(hfB).trans hf9,hs9.wide (hfB).size (Nat.le_refl _)⟩
   cases xw:t.text==[119,104,105,108,101]
   case true =>
    simp only[xl,xi,xw,Bool.false_or,Bool.or_false,Bool.or_true,Bool.true_or,Bool.or_self,Bool.false_eq_true,if_false,if_true]at hm
    cases res with
    | error f =>
     go_enter Tryz.func103,Tryz.ntmps103
     go_wp2_with (first|(go_at_call 40;refine c1.mono ?_;rintro e w1 ⟨rfl,ha,hps1,hf1,hpsA,hfA,kb',hpsB,hfB,hw1⟩;clear c1;obtain⟨kc,kz,kset,kb⟩:=hps1.blk.rules)|(go_at_call 151;refine(ihl none _ _ _ _ rfl hpsB hm).mono ?_;rintro e w9 hO;obtain⟨rfl,hf9⟩:=hO))
     exact⟨rfl,rfl,(hfB).trans hf9⟩
    | ok p =>
     obtain⟨T,ts9⟩:=p
     go_enter Tryz.func103,Tryz.ntmps103
     go_wp2_with (first|(go_at_call 40;refine c1.mono ?_;rintro e w1 ⟨rfl,ha,hps1,hf1,hpsA,hfA,kb',hpsB,hfB,hw1⟩;clear c1;obtain⟨kc,kz,kset,kb⟩:=hps1.blk.rules)|(go_at_call 151;refine(ihl none _ _ _ _ rfl hpsB hm).mono ?_;rintro e w9 hO;obtain⟨b9,a9,rfl,rfl,hps9,hf9,hs9⟩:=hO))
     go_ret
     exact⟨b9,a9,rfl,rfl,hps9,(hfB).trans hf9,hs9.wide (hfB).size (Nat.le_refl _)⟩
   cases xf:t.text==[102,111,114]
   case true =>
    simp only[xl,xi,xw,xf,Bool.false_or,Bool.or_false,Bool.or_true,Bool.true_or,Bool.or_self,Bool.false_eq_true,if_false,if_true]at hm
    cases res with
    | error f =>
     go_enter Tryz.func103,Tryz.ntmps103
     go_wp2_with (first|(go_at_call 40;refine c1.mono ?_;rintro e w1 ⟨rfl,ha,hps1,hf1,hpsA,hfA,kb',hpsB,hfB,hw1⟩;clear c1;obtain⟨kc,kz,kset,kb⟩:=hps1.blk.rules)|(go_at_call 151;refine(ihl none _ _ _ _ rfl hpsB hm).mono ?_;rintro e w9 hO;obtain⟨rfl,hf9⟩:=hO))
     exact⟨rfl,rfl,(hfB).trans hf9⟩
    | ok p =>
     obtain⟨T,ts9⟩:=p
     go_enter Tryz.func103,Tryz.ntmps103
     go_wp2_with (first|(go_at_call 40;refine c1.mono ?_;rintro e w1 ⟨rfl,ha,hps1,hf1,hpsA,hfA,kb',hpsB,hfB,hw1⟩;clear c1;obtain⟨kc,kz,kset,kb⟩:=hps1.blk.rules)|(go_at_call 151;refine(ihl none _ _ _ _ rfl hpsB hm).mono ?_;rintro e w9 hO;obtain⟨b9,a9,rfl,rfl,hps9,hf9,hs9⟩:=hO))
     go_ret
     exact⟨b9,a9,rfl,rfl,hps9,(hfB).trans hf9,hs9.wide (hfB).size (Nat.le_refl _)⟩
   cases xb:t.text==[98,114,101,97,107]
   case true =>
    have xcf:(t.text==[99,111,110,116,105,110,117,101])=false:=by rw[beq_iff_eq.1 xb];rfl
    simp only[xl,xi,xw,xf,xb,xcf,Bool.false_or,Bool.or_false,Bool.or_true,Bool.true_or,Bool.or_self,Bool.false_eq_true,if_false,if_true]at hm
    rw[bind_eq,P.bind,adv_eq]at hm
    simp only at hm
    have hpsC:=fun(W:World) (hW:PS S (a+1) W)=>hW.fr ((Fr.refl [] _).alloc (.cells (ncells ⟨13,t.at',0,[],0,0⟩ 0 (.slice none 0 0)) 90))
    obtain⟨e,hm2,rfl⟩|⟨d,ts2,hm2,hm⟩:=bind_some hm
    ·go_enter Tryz.func103,Tryz.ntmps103
     go_wp2_with (first|(go_at_call 40;refine c1.mono ?_;rintro e w1 ⟨rfl,ha,hps1,hf1,hpsA,hfA,kb',hpsB,hfB,hw1⟩;clear c1;obtain⟨kc,kz,kset,kb⟩:=hps1.blk.rules)|(go_at_call 39;refine(node_any _ _ _ _ _ ⟨_,_,_,rfl⟩).mono ?_;rintro e w9 ⟨rfl,rfl⟩)|(go_at_call 40;refine(look_er (hpsC _ hpsA) hm2).mono ?_;rintro e w2 ⟨rfl,hf2⟩))
     exact⟨rfl,rfl,(hfA.alloc (.cells (ncells ⟨13,t.at',0,[],0,0⟩ 0 (.slice none 0 0)) 90)).trans hf2⟩
    have c2:=fun W (hW:PS S (a+1) W)=>look_ok hW hm2
    obtain rfl:ts2=S.ts (a+1):=by rw[look_eq]at hm2;split at hm2<;>first|(cases hm2;rfl)|cases hm2
    clear hm2
    cases xd:d.kind==1
    ·simp only[xd,Bool.false_eq_true,if_false,if_true]at hm
     cases res with
     | error f =>
      go_enter Tryz.func103,Tryz.ntmps103
      go_wp2_with (first|(go_at_call 40;refine c1.mono ?_;rintro e w1 ⟨rfl,ha,hps1,hf1,hpsA,hfA,kb',hpsB,hfB,hw1⟩;clear c1;obtain⟨kc,kz,kset,kb⟩:=hps1.blk.rules)|(go_at_call 39;refine(node_any _ _ _ _ _ ⟨_,_,_,rfl⟩).mono ?_;rintro e w9 ⟨rfl,rfl⟩)|(go_at_call 40;refine(c2 _ (hpsC _ hpsA)).mono ?_;rintro e w2 ⟨rfl,_,ha2,hps2,hf2⟩;clear c2;have hw1':=hfA.size;have hNB:=(Blk.new ((Ck.blk w1 S.bp #[S.vt,.int .i64 S.F.code,.int .i64 S.F.at',S.vo,.int .i64 ((a:Int)+1)] 77).alloc (tokB t)) (ncells ⟨13,t.at',0,[],0,0⟩ 0 (.slice none 0 0)) 90).fr hf2 (by simp);simp only[World.size_alloc,blk_size]at hNB;have hf02:=(hfA.alloc (.cells (ncells ⟨13,t.at',0,[],0,0⟩ 0 (.slice none 0 0)) 90)).trans hf2.nil;have hw2:=hf2.size;simp only[World.size_alloc,blk_size]at hw2)|(go_at_call 153;refine(end_er hps2 hm).mono ?_;rintro e w9 ⟨rfl,hf9⟩))
      exact⟨rfl,rfl,(hf02).trans hf9⟩
     | ok p =>
      obtain⟨T,ts9⟩:=p
      go_enter Tryz.func103,Tryz.ntmps103
      go_wp2_with (first|(go_at_call 40;refine c1.mono ?_;rintro e w1 ⟨rfl,ha,hps1,hf1,hpsA,hfA,kb',hpsB,hfB,hw1⟩;clear c1;obtain⟨kc,kz,kset,kb⟩:=hps1.blk.rules)|(go_at_call 39;refine(node_any _ _ _ _ _ ⟨_,_,_,rfl⟩).mono ?_;rintro e w9 ⟨rfl,rfl⟩)|(go_at_call 40;refine(c2 _ (hpsC _ hpsA)).mono ?_;rintro e w2 ⟨rfl,_,ha2,hps2,hf2⟩;clear c2;have hw1':=hfA.size;have hNB:=(Blk.new ((Ck.blk w1 S.bp #[S.vt,.int .i64 S.F.code,.int .i64 S.F.at',S.vo,.int .i64 ((a:Int)+1)] 77).alloc (tokB t)) (ncells ⟨13,t.at',0,[],0,0⟩ 0 (.slice none 0 0)) 90).fr hf2 (by simp);simp only[World.size_alloc,blk_size]at hNB;have hf02:=(hfA.alloc (.cells (ncells ⟨13,t.at',0,[],0,0⟩ 0 (.slice none 0 0)) 90)).trans hf2.nil;have hw2:=hf2.size;simp only[World.size_alloc,blk_size]at hw2)|(go_at_call 153;refine(end_ok (lo:=w.heap.size) hps2 (leaf_at hNB (by omega) hNB.lt) (by omega) (Nat.le_refl _) hm).mono ?_;rintro e w9 ⟨b9,a9,rfl,rfl,hps9,hf9,hs9⟩))
      go_ret
      exact⟨b9,a9,rfl,rfl,hps9,(hf02).trans hf9,hs9⟩
    ·simp only[xd,if_true]at hm
     obtain⟨e,hm3,rfl⟩|⟨l,ts3,hm3,hm⟩:=bind_some hm
     ·go_enter Tryz.func103,Tryz.ntmps103
      go_wp2_with (first|(go_at_call 40;refine c1.mono ?_;rintro e w1 ⟨rfl,ha,hps1,hf1,hpsA,hfA,kb',hpsB,hfB,hw1⟩;clear c1;obtain⟨kc,kz,kset,kb⟩:=hps1.blk.rules)|(go_at_call 39;refine(node_any _ _ _ _ _ ⟨_,_,_,rfl⟩).mono ?_;rintro e w9 ⟨rfl,rfl⟩)|(go_at_call 40;refine(c2 _ (hpsC _ hpsA)).mono ?_;rintro e w2 ⟨rfl,_,ha2,hps2,hf2⟩;clear c2;have hw1':=hfA.size;have hNB:=(Blk.new ((Ck.blk w1 S.bp #[S.vt,.int .i64 S.F.code,.int .i64 S.F.at',S.vo,.int .i64 ((a:Int)+1)] 77).alloc (tokB t)) (ncells ⟨13,t.at',0,[],0,0⟩ 0 (.slice none 0 0)) 90).fr hf2 (by simp);simp only[World.size_alloc,blk_size]at hNB;have hf02:=(hfA.alloc (.cells (ncells ⟨13,t.at',0,[],0,0⟩ 0 (.slice none 0 0)) 90)).trans hf2.nil;have hw2:=hf2.size;simp only[World.size_alloc,blk_size]at hw2)|(go_at_call 42;refine(take_er hps2 hm3).mono ?_;rintro e w3 ⟨rfl,hf3⟩))
      exact⟨rfl,rfl,hf02.trans hf3⟩
     cases res with
     | error f =>
      go_enter Tryz.func103,Tryz.ntmps103
      go_wp2_with (first|(go_at_call 40;refine c1.mono ?_;rintro e w1 ⟨rfl,ha,hps1,hf1,hpsA,hfA,kb',hpsB,hfB,hw1⟩;clear c1;obtain⟨kc,kz,kset,kb⟩:=hps1.blk.rules)|(go_at_call 39;refine(node_any _ _ _ _ _ ⟨_,_,_,rfl⟩).mono ?_;rintro e w9 ⟨rfl,rfl⟩)|(go_at_call 40;refine(c2 _ (hpsC _ hpsA)).mono ?_;rintro e w2 ⟨rfl,_,ha2,hps2,hf2⟩;clear c2;have hw1':=hfA.size;have hNB:=(Blk.new ((Ck.blk w1 S.bp #[S.vt,.int .i64 S.F.code,.int .i64 S.F.at',S.vo,.int .i64 ((a:Int)+1)] 77).alloc (tokB t)) (ncells ⟨13,t.at',0,[],0,0⟩ 0 (.slice none 0 0)) 90).fr hf2 (by simp);simp only[World.size_alloc,blk_size]at hNB;have hf02:=(hfA.alloc (.cells (ncells ⟨13,t.at',0,[],0,0⟩ 0 (.slice none 0 0)) 90)).trans hf2.nil;have hw2:=hf2.size;simp only[World.size_alloc,blk_size]at hw2)|(go_at_call 42;refine(take_ok hps2 hm3).mono ?_;rintro e w3 ⟨rfl,a3,rfl,hps3,hf3⟩;clear hm3;have hNB3:=hNB.fr hf3 (by simp;omega);obtain⟨nc,nz,nset,nb⟩:=hNB3.rules;simp only[ncells]at nc nset;have hf03:=hf02.trans hf3;have hw3:=hf3.size)|(go_at_call 153;refine(end_er (h.go (hf03.blk (.inr (by omega)) _ _) (Blk.blk_other hps3.blk (by omega)) hps3.ha) hm).mono ?_;rintro e w9 ⟨rfl,hf9⟩))
      exact⟨rfl,rfl,((hf03.blk (.inr (by omega)) _ _)).trans hf9⟩
     | ok p =>
      obtain⟨T,ts9⟩:=p
      go_enter Tryz.func103,Tryz.ntmps103
      go_wp2_with (first|(go_at_call 40;refine c1.mono ?_;rintro e w1 ⟨rfl,ha,hps1,hf1,hpsA,hfA,kb',hpsB,hfB,hw1⟩;clear c1;obtain⟨kc,kz,kset,kb⟩:=hps1.blk.rules)|(go_at_call 39;refine(node_any _ _ _ _ _ ⟨_,_,_,rfl⟩).mono ?_;rintro e w9 ⟨rfl,rfl⟩)|(go_at_call 40;refine(c2 _ (hpsC _ hpsA)).mono ?_;rintro e w2 ⟨rfl,_,ha2,hps2,hf2⟩;clear c2;have hw1':=hfA.size;have hNB:=(Blk.new ((Ck.blk w1 S.bp #[S.vt,.int .i64 S.F.code,.int .i64 S.F.at',S.vo,.int .i64 ((a:Int)+1)] 77).alloc (tokB t)) (ncells ⟨13,t.at',0,[],0,0⟩ 0 (.slice none 0 0)) 90).fr hf2 (by simp);simp only[World.size_alloc,blk_size]at hNB;have hf02:=(hfA.alloc (.cells (ncells ⟨13,t.at',0,[],0,0⟩ 0 (.slice none 0 0)) 90)).trans hf2.nil;have hw2:=hf2.size;simp only[World.size_alloc,blk_size]at hw2)|(go_at_call 42;refine(take_ok hps2 hm3).mono ?_;rintro e w3 ⟨rfl,a3,rfl,hps3,hf3⟩;clear hm3;have hNB3:=hNB.fr hf3 (by simp;omega);obtain⟨nc,nz,nset,nb⟩:=hNB3.rules;simp only[ncells]at nc nset;have hf03:=hf02.trans hf3;have hw3:=hf3.size)|(go_at_call 153;refine(end_ok (lo:=w.heap.size) (h.go (hf03.blk (.inr (by omega)) _ _) (Blk.blk_other hps3.blk (by omega)) hps3.ha) (leaf_at (hi:=w3.heap.size) (Blk.blk (by omega)) (by omega) (by omega)) (by omega) (by rw[blk_size];exact Nat.le_refl _) hm).mono ?_;rintro e w9 ⟨b9,a9,rfl,rfl,hps9,hf9,hs9⟩))
      go_ret
      exact⟨b9,a9,rfl,rfl,hps9,((hf03.blk (.inr (by omega)) _ _)).trans hf9,hs9⟩
   cases xc:t.text==[99,111,110,116,105,110,117,101]
   case true =>
    simp only[xl,xi,xw,xf,xb,xc,Bool.false_or,Bool.or_false,Bool.or_true,Bool.true_or,Bool.or_self,Bool.false_eq_true,if_false,if_true]at hm
    rw[bind_eq,P.bind,adv_eq]at hm
    simp only at hm
    have hpsC:=fun(W:World) (hW:PS S (a+1) W)=>hW.fr ((Fr.refl [] _).alloc (.cells (ncells ⟨14,t.at',0,[],0,0⟩ 0 (.slice none 0 0)) 90))
    obtain⟨e,hm2,rfl⟩|⟨d,ts2,hm2,hm⟩:=bind_some hm
    ·go_enter Tryz.func103,Tryz.ntmps103
     go_wp2_with (first|(go_at_call 40;refine c1.mono ?_;rintro e w1 ⟨rfl,ha,hps1,hf1,hpsA,hfA,kb',hpsB,hfB,hw1⟩;clear c1;obtain⟨kc,kz,kset,kb⟩:=hps1.blk.rules)|(go_at_call 39;refine(node_any _ _ _ _ _ ⟨_,_,_,rfl⟩).mono ?_;rintro e w9 ⟨rfl,rfl⟩)|(go_at_call 40;refine(look_er (hpsC _ hpsA) hm2).mono ?_;rintro e w2 ⟨rfl,hf2⟩))
     exact⟨rfl,rfl,(hfA.alloc (.cells (ncells ⟨14,t.at',0,[],0,0⟩ 0 (.slice none 0 0)) 90)).trans hf2⟩
    have c2:=fun W (hW:PS S (a+1) W)=>look_ok hW hm2
    obtain rfl:ts2=S.ts (a+1):=by rw[look_eq]at hm2;split at hm2<;>first|(cases hm2;rfl)|cases hm2
    clear hm2
    cases xd:d.kind==1
    ·simp only[xd,Bool.false_eq_true,if_false,if_true]at hm
     cases res with
     | error f =>
      go_enter Tryz.func103,Tryz.ntmps103
      go_wp2_with (first|(go_at_call 40;refine c1.mono ?_;rintro e w1 ⟨rfl,ha,hps1,hf1,hpsA,hfA,kb',hpsB,hfB,hw1⟩;clear c1;obtain⟨kc,kz,kset,kb⟩:=hps1.blk.rules)|(go_at_call 39;refine(node_any _ _ _ _ _ ⟨_,_,_,rfl⟩).mono ?_;rintro e w9 ⟨rfl,rfl⟩)|(go_at_call 40;refine(c2 _ (hpsC _ hpsA)).mono ?_;rintro e w2 ⟨rfl,_,ha2,hps2,hf2⟩;clear c2;have hw1':=hfA.size;have hNB:=(Blk.new ((Ck.blk w1 S.bp #[S.vt,.int .i64 S.F.code,.int .i64 S.F.at',S.vo,.int .i64 ((a:Int)+1)] 77).alloc (tokB t)) (ncells ⟨14,t.at',0,[],0,0⟩ 0 (.slice none 0 0)) 90).fr hf2 (by simp);simp only[World.size_alloc,blk_size]at hNB;have hf02:=(hfA.alloc (.cells (ncells ⟨14,t.at',0,[],0,0⟩ 0 (.slice none 0 0)) 90)).trans hf2.nil;have hw2:=hf2.size;simp only[World.size_alloc,blk_size]at hw2)|(go_at_call 153;refine(end_er hps2 hm).mono ?_;rintro e w9 ⟨rfl,hf9⟩))
      exact⟨rfl,rfl,(hf02).trans hf9⟩
     | ok p =>
      obtain⟨T,ts9⟩:=p
      go_enter Tryz.func103,Tryz.ntmps103
      go_wp2_with (first|(go_at_call 40;refine c1.mono ?_;rintro e w1 ⟨rfl,ha,hps1,hf1,hpsA,hfA,kb',hpsB,hfB,hw1⟩;clear c1;obtain⟨kc,kz,kset,kb⟩:=hps1.blk.rules)|(go_at_call 39;refine(node_any _ _ _ _ _ ⟨_,_,_,rfl⟩).mono ?_;rintro e w9 ⟨rfl,rfl⟩)|(go_at_call 40;refine(c2 _ (hpsC _ hpsA)).mono ?_;rintro e w2 ⟨rfl,_,ha2,hps2,hf2⟩;clear c2;have hw1':=hfA.size;have hNB:=(Blk.new ((Ck.blk w1 S.bp #[S.vt,.int .i64 S.F.code,.int .i64 S.F.at',S.vo,.int .i64 ((a:Int)+1)] 77).alloc (tokB t)) (ncells ⟨14,t.at',0,[],0,0⟩ 0 (.slice none 0 0)) 90).fr hf2 (by simp);simp only[World.size_alloc,blk_size]at hNB;have hf02:=(hfA.alloc (.cells (ncells ⟨14,t.at',0,[],0,0⟩ 0 (.slice none 0 0)) 90)).trans hf2.nil;have hw2:=hf2.size;simp only[World.size_alloc,blk_size]at hw2)|(go_at_call 153;refine(end_ok (lo:=w.heap.size) hps2 (leaf_at hNB (by omega) hNB.lt) (by omega) (Nat.le_refl _) hm).mono ?_;rintro e w9 ⟨b9,a9,rfl,rfl,hps9,hf9,hs9⟩))
      go_ret
      exact⟨b9,a9,rfl,rfl,hps9,(hf02).trans hf9,hs9⟩
    ·simp only[xd,if_true]at hm
     obtain⟨e,hm3,rfl⟩|⟨l,ts3,hm3,hm⟩:=bind_some hm
     ·go_enter Tryz.func103,Tryz.ntmps103
      go_wp2_with (first|(go_at_call 40;refine c1.mono ?_;rintro e w1 ⟨rfl,ha,hps1,hf1,hpsA,hfA,kb',hpsB,hfB,hw1⟩;clear c1;obtain⟨kc,kz,kset,kb⟩:=hps1.blk.rules)|(go_at_call 39;refine(node_any _ _ _ _ _ ⟨_,_,_,rfl⟩).mono ?_;rintro e w9 ⟨rfl,rfl⟩)|(go_at_call 40;refine(c2 _ (hpsC _ hpsA)).mono ?_;rintro e w2 ⟨rfl,_,ha2,hps2,hf2⟩;clear c2;have hw1':=hfA.size;have hNB:=(Blk.new ((Ck.blk w1 S.bp #[S.vt,.int .i64 S.F.code,.int .i64 S.F.at',S.vo,.int .i64 ((a:Int)+1)] 77).alloc (tokB t)) (ncells ⟨14,t.at',0,[],0,0⟩ 0 (.slice none 0 0)) 90).fr hf2 (by simp);simp only[World.size_alloc,blk_size]at hNB;have hf02:=(hfA.alloc (.cells (ncells ⟨14,t.at',0,[],0,0⟩ 0 (.slice none 0 0)) 90)).trans hf2.nil;have hw2:=hf2.size;simp only[World.size_alloc,blk_size]at hw2)|(go_at_call 42;refine(take_er hps2 hm3).mono ?_;rintro e w3 ⟨rfl,hf3⟩))
      exact⟨rfl,rfl,hf02.trans hf3⟩
     cases res with
     | error f =>
      go_enter Tryz.func103,Tryz.ntmps103
      go_wp2_with (first|(go_at_call 40;refine c1.mono ?_;rintro e w1 ⟨rfl,ha,hps1,hf1,hpsA,hfA,kb',hpsB,hfB,hw1⟩;clear c1;obtain⟨kc,kz,kset,kb⟩:=hps1.blk.rules)|(go_at_call 39;refine(node_any _ _ _ _ _ ⟨_,_,_,rfl⟩).mono ?_;rintro e w9 ⟨rfl,rfl⟩)|(go_at_call 40;refine(c2 _ (hpsC _ hpsA)).mono ?_;rintro e w2 ⟨rfl,_,ha2,hps2,hf2⟩;clear c2;have hw1':=hfA.size;have hNB:=(Blk.new ((Ck.blk w1 S.bp #[S.vt,.int .i64 S.F.code,.int .i64 S.F.at',S.vo,.int .i64 ((a:Int)+1)] 77).alloc (tokB t)) (ncells ⟨14,t.at',0,[],0,0⟩ 0 (.slice none 0 0)) 90).fr hf2 (by simp);simp only[World.size_alloc,blk_size]at hNB;have hf02:=(hfA.alloc (.cells (ncells ⟨14,t.at',0,[],0,0⟩ 0 (.slice none 0 0)) 90)).trans hf2.nil;have hw2:=hf2.size;simp only[World.size_alloc,blk_size]at hw2)|(go_at_call 42;refine(take_ok hps2 hm3).mono ?_;rintro e w3 ⟨rfl,a3,rfl,hps3,hf3⟩;clear hm3;have hNB3:=hNB.fr hf3 (by simp;omega);obtain⟨nc,nz,nset,nb⟩:=hNB3.rules;simp only[ncells]at nc nset;have hf03:=hf02.trans hf3;have hw3:=hf3.size)|(go_at_call 153;refine(end_er (h.go (hf03.blk (.inr (by omega)) _ _) (Blk.blk_other hps3.blk (by omega)) hps3.ha) hm).mono ?_;rintro e w9 ⟨rfl,hf9⟩))
      exact⟨rfl,rfl,((hf03.blk (.inr (by omega)) _ _)).trans hf9⟩
     | ok p =>
      obtain⟨T,ts9⟩:=p
      go_enter Tryz.func103,Tryz.ntmps103
      go_wp2_with (first|(go_at_call 40;refine c1.mono ?_;rintro e w1 ⟨rfl,ha,hps1,hf1,hpsA,hfA,kb',hpsB,hfB,hw1⟩;clear c1;obtain⟨kc,kz,kset,kb⟩:=hps1.blk.rules)|(go_at_call 39;refine(node_any _ _ _ _ _ ⟨_,_,_,rfl⟩).mono ?_;rintro e w9 ⟨rfl,rfl⟩)|(go_at_call 40;refine(c2 _ (hpsC _ hpsA)).mono ?_;rintro e w2 ⟨rfl,_,ha2,hps2,hf2⟩;clear c2;have hw1':=hfA.size;have hNB:=(Blk.new ((Ck.blk w1 S.bp #[S.vt,.int .i64 S.F.code,.int .i64 S.F.at',S.vo,.int .i64 ((a:Int)+1)] 77).alloc (tokB t)) (ncells ⟨14,t.at',0,[],0,0⟩ 0 (.slice none 0 0)) 90).fr hf2 (by simp);simp only[World.size_alloc,blk_size]at hNB;have hf02:=(hfA.alloc (.cells (ncells ⟨14,t.at',0,[],0,0⟩ 0 (.slice none 0 0)) 90)).trans hf2.nil;have hw2:=hf2.size;simp only[World.size_alloc,blk_size]at hw2)|(go_at_call 42;refine(take_ok hps2 hm3).mono ?_;rintro e w3 ⟨rfl,a3,rfl,hps3,hf3⟩;clear hm3;have hNB3:=hNB.fr hf3 (by simp;omega);obtain⟨nc,nz,nset,nb⟩:=hNB3.rules;simp only[ncells]at nc nset;have hf03:=hf02.trans hf3;have hw3:=hf3.size)|(go_at_call 153;refine(end_ok (lo:=w.heap.size) (h.go (hf03.blk (.inr (by omega)) _ _) (Blk.blk_other hps3.blk (by omega)) hps3.ha) (leaf_at (hi:=w3.heap.size) (Blk.blk (by omega)) (by omega) (by omega)) (by omega) (by rw[blk_size];exact Nat.le_refl _) hm).mono ?_;rintro e w9 ⟨b9,a9,rfl,rfl,hps9,hf9,hs9⟩))
      go_ret
      exact⟨b9,a9,rfl,rfl,hps9,((hf03.blk (.inr (by omega)) _ _)).trans hf9,hs9⟩
   cases xr:t.text==[114,101,116,117,114,110]
   case true =>
    simp only[xl,xi,xw,xf,xb,xc,xr,Bool.false_or,Bool.or_false,Bool.or_true,Bool.true_or,Bool.or_self,Bool.false_eq_true,if_false,if_true]at hm
    rw[bind_eq,P.bind,adv_eq]at hm
    simp only at hm
    have hpsC:=fun(W:World) (hW:PS S (a+1) W)=>(hW.fr ((Fr.refl [] _).alloc (.cells (ncells ⟨15,t.at',0,[],0,0⟩ 0 (.slice none 0 0)) 90))).fr ((Fr.refl [] _).alloc (.cells #[.string ⟨#[59]⟩] 9))
    have hv:∀W:World,StrSlice (W.alloc (.cells #[.string ⟨#[59]⟩] 9)) (.slice (some ⟨W.heap.size,0,none⟩) 1 1) [[59]]:=fun W=>str1 W [59]
    obtain⟨e,hm2,rfl⟩|⟨q,ts2,hm2,hm⟩:=bind_some hm
    ·go_enter Tryz.func103,Tryz.ntmps103
     go_wp2_with (first|(go_at_call 40;refine c1.mono ?_;rintro e w1 ⟨rfl,ha,hps1,hf1,hpsA,hfA,kb',hpsB,hfB,hw1⟩;clear c1;obtain⟨kc,kz,kset,kb⟩:=hps1.blk.rules)|(go_at_call 39;refine(node_any _ _ _ _ _ ⟨_,_,_,rfl⟩).mono ?_;rintro e w9 ⟨rfl,rfl⟩)|(go_at_call 72;refine(sees_er (hpsC _ hpsA) (by simpa[blk_size,tokB,ncells]using hv (((Ck.blk w1 S.bp #[S.vt,.int .i64 S.F.code,.int .i64 S.F.at',S.vo,.int .i64 ((a:Int)+1)] 77).alloc (tokB t)).alloc (.cells (ncells ⟨15,t.at',0,[],0,0⟩ 0 (.slice none 0 0)) 90))) (by simp) hm2).mono ?_;rintro e w2 ⟨rfl,hf2⟩))
     exact⟨rfl,rfl,((hfA.alloc (.cells (ncells ⟨15,t.at',0,[],0,0⟩ 0 (.slice none 0 0)) 90)).alloc (.cells #[.string ⟨#[59]⟩] 9)).trans hf2⟩
    have c2:=fun W v (hW:PS S (a+1) W) (hv:StrSlice W v [[59]])=>sees_ok hW hv (by simp) hm2
    obtain rfl:ts2=S.ts (a+1):=by rw[sees_eq]at hm2;split at hm2<;>first|(cases hm2;rfl)|cases hm2
    clear hm2
    cases q
    ·simp only[Bool.false_eq_true,if_false]at hm
     obtain⟨e,hm3,rfl⟩|⟨E,ts3,hm3,hm⟩:=bind_some hm
     ·go_enter Tryz.func103,Tryz.ntmps103
      go_wp2_with (first|(go_at_call 40;refine c1.mono ?_;rintro e w1 ⟨rfl,ha,hps1,hf1,hpsA,hfA,kb',hpsB,hfB,hw1⟩;clear c1;obtain⟨kc,kz,kset,kb⟩:=hps1.blk.rules)|(go_at_call 39;refine(node_any _ _ _ _ _ ⟨_,_,_,rfl⟩).mono ?_;rintro e w9 ⟨rfl,rfl⟩)|(go_at_call 72;refine(c2 _ _ (hpsC _ hpsA) (by simpa[blk_size,tokB,ncells]using hv (((Ck.blk w1 S.bp #[S.vt,.int .i64 S.F.code,.int .i64 S.F.at',S.vo,.int .i64 ((a:Int)+1)] 77).alloc (tokB t)).alloc (.cells (ncells ⟨15,t.at',0,[],0,0⟩ 0 (.slice none 0 0)) 90)))).mono ?_;rintro e w2 ⟨rfl,_,hps2,hf2⟩;clear c2;have hw1':=hfA.size;have hG:=((Gr.new ((Ck.blk w1 S.bp #[S.vt,.int .i64 S.F.code,.int .i64 S.F.at',S.vo,.int .i64 ((a:Int)+1)] 77).alloc (tokB t)) w.heap.size ⟨15,t.at',0,[],0,0⟩ hw1').fr ((Fr.refl [] _).alloc (.cells #[.string ⟨#[59]⟩] 9)) (by simp)).fr hf2 (by simp);simp only[World.size_alloc,blk_size]at hG;have hf02:=((hfA.alloc (.cells (ncells ⟨15,t.at',0,[],0,0⟩ 0 (.slice none 0 0)) 90)).alloc (.cells #[.string ⟨#[59]⟩] 9)).trans hf2.nil;have hw2:=hf2.size;simp only[World.size_alloc,blk_size]at hw2))
      have hf0:=hf02
      have hps0:=hps2
      obtain⟨c,hc⟩:∃c,Hid (c=w1.heap.size+1):=⟨_,rfl⟩
      rw[←hc.out]at hG ⊢
      clear hc hps2 hf02 hf2 hw2 hw1' hpsA hfA hpsB hfB hps1 hf1 hpsC kc kz kset kb kb' hv
      obtain⟨bs,hbs⟩:∃bs,Hid (bs=([]:List Nat)):=⟨_,rfl⟩
      obtain⟨vk,hvk⟩:∃vk:Value,Hid (vk=.slice none 0 0):=⟨_,rfl⟩
      rw[←hbs.out,←hvk.out]at hG
      clear hbs hvk
      obtain⟨ks,hks⟩:∃ks,Hid (ks=([]:List Tree)):=⟨_,rfl⟩
      have hkl:ks.length≤8:=by rw[hks.out];simp
      rw[←hks.out]at hG
      have hbw:=hf0.size
      obtain⟨kc,kz,kset,kb⟩:=hG.blk.rules
      simp only[ncells]at kc kset
      go_region_dies
      all_goals (go_at_call 154;refine(ihe _ _ _ (hps0.fr (Fr.refl [] _).drew) hm3).mono ?_;rintro e w3 ⟨rfl,hf3⟩)
      all_goals exact⟨rfl,rfl,(hf0.drew).trans hf3⟩
     cases res with
     | error f =>
      go_enter Tryz.func103,Tryz.ntmps103
      go_wp2_with (first|(go_at_call 40;refine c1.mono ?_;rintro e w1 ⟨rfl,ha,hps1,hf1,hpsA,hfA,kb',hpsB,hfB,hw1⟩;clear c1;obtain⟨kc,kz,kset,kb⟩:=hps1.blk.rules)|(go_at_call 39;refine(node_any _ _ _ _ _ ⟨_,_,_,rfl⟩).mono ?_;rintro e w9 ⟨rfl,rfl⟩)|(go_at_call 72;refine(c2 _ _ (hpsC _ hpsA) (by simpa[blk_size,tokB,ncells]using hv (((Ck.blk w1 S.bp #[S.vt,.int .i64 S.F.code,.int .i64 S.F.at',S.vo,.int .i64 ((a:Int)+1)] 77).alloc (tokB t)).alloc (.cells (ncells ⟨15,t.at',0,[],0,0⟩ 0 (.slice none 0 0)) 90)))).mono ?_;rintro e w2 ⟨rfl,_,hps2,hf2⟩;clear c2;have hw1':=hfA.size;have hG:=((Gr.new ((Ck.blk w1 S.bp #[S.vt,.int .i64 S.F.code,.int .i64 S.F.at',S.vo,.int .i64 ((a:Int)+1)] 77).alloc (tokB t)) w.heap.size ⟨15,t.at',0,[],0,0⟩ hw1').fr ((Fr.refl [] _).alloc (.cells #[.string ⟨#[59]⟩] 9)) (by simp)).fr hf2 (by simp);simp only[World.size_alloc,blk_size]at hG;have hf02:=((hfA.alloc (.cells (ncells ⟨15,t.at',0,[],0,0⟩ 0 (.slice none 0 0)) 90)).alloc (.cells #[.string ⟨#[59]⟩] 9)).trans hf2.nil;have hw2:=hf2.size;simp only[World.size_alloc,blk_size]at hw2))
      have hf0:=hf02
      have hps0:=hps2
      obtain⟨c,hc⟩:∃c,Hid (c=w1.heap.size+1):=⟨_,rfl⟩
      rw[←hc.out]at hG ⊢
      clear hc hps2 hf02 hf2 hw2 hw1' hpsA hfA hpsB hfB hps1 hf1 hpsC kc kz kset kb kb' hv
      obtain⟨bs,hbs⟩:∃bs,Hid (bs=([]:List Nat)):=⟨_,rfl⟩
      obtain⟨vk,hvk⟩:∃vk:Value,Hid (vk=.slice none 0 0):=⟨_,rfl⟩
      rw[←hbs.out,←hvk.out]at hG
      clear hbs hvk
      obtain⟨ks,hks⟩:∃ks,Hid (ks=([]:List Tree)):=⟨_,rfl⟩
      have hkl:ks.length≤8:=by rw[hks.out];simp
      rw[←hks.out]at hG
      have hbw:=hf0.size
      obtain⟨kc,kz,kset,kb⟩:=hG.blk.rules
      simp only[ncells]at kc kset
      go_region_law (first|(refine step_append_lies _ rfl _ _ 88 rfl (c+1) 55 i0 (.pointer none) 1 8 Tryz.underlying88 hi hz0 hz1 hz2 rfl (by decide) vk ks.length (ptrs bs) rfl (by exact ownsRow_fr hG3.row ((Fr.refl [] _).alloc _) (by simp)) ⟨w3.heap.size,0,none⟩ 1 1 [ptrV b3] rfl rfl (World.news_of_block (Blk.new _ _ _)) (by simp[Value.oneCell',ptrV]) (by omega) (by simp[maxLen];omega) (by omega) (by have:=hG3.blk.lt;simp;omega) _ rfl ?_;intro g' cap' w8 hown8 hg8 hat8 hlt8;obtain⟨qc,qz,qset,qb⟩:=((hG3.blk.alloc _).grown hg8 (fun e=>by have:=(hG3.row.lt _ e).1;omega)).rules;simp only[ncells]at qc qset)|(go_simp;go_at_call 154;refine(ihe _ _ _ (hps0.fr (Fr.refl [] _).drew) hm3).mono ?_;rintro e w3 ⟨b3,a3,rfl,rfl,hps3,hf3,hs3⟩;have hG3:=(hG.fr (Fr.refl [] _).drew (by simp)).fr hf3 (by simp;omega);obtain⟨rc3,rz3,rset3,rb3⟩:=hG3.blk.rules;simp only[ncells]at rc3 rset3;have hw3:=hf3.size))
      all_goals
       have hK:Kids w3 w2.heap.size [b3] [E]:=Kids.one (show Sp w3 w2.heap.size w3.heap.size b3 E from hs3) (Nat.le_refl _)
       obtain⟨q1,q2,q3⟩:=Gr.stepL h hG hf0 (show Fr [S.bp] w2 w3 from(Fr.refl _ _).drew.trans hf3) hps3 hK hown8 hg8 hat8
       have hs:=q3.sp
       obtain⟨W3,hW3⟩:∃X,X=(Ck.blk w8 c (ncells ⟨15,t.at',0,[],0,0⟩ 0 (.slice (some ⟨g',0,none⟩) (ks.length+[E].length) cap')) 90):=⟨_,rfl⟩
       rw[←hW3]at q1 q2 hs
       rw[hks.out]at hs
       simp only[ncells,List.length_cons,List.length_nil,Nat.zero_add]at hW3
       rw[←hW3]
       clear hW3
       go_wp2_with (go_at_call 153;refine(end_er q1 hm).mono ?_;rintro e w9 ⟨rfl,hf9⟩)
       exact⟨rfl,rfl,q2.trans hf9⟩
     | ok p =>
      obtain⟨T,ts9⟩:=p
      go_enter Tryz.func103,Tryz.ntmps103
      go_wp2_with (first|(go_at_call 40;refine c1.mono ?_;rintro e w1 ⟨rfl,ha,hps1,hf1,hpsA,hfA,kb',hpsB,hfB,hw1⟩;clear c1;obtain⟨kc,kz,kset,kb⟩:=hps1.blk.rules)|(go_at_call 39;refine(node_any _ _ _ _ _ ⟨_,_,_,rfl⟩).mono ?_;rintro e w9 ⟨rfl,rfl⟩)|(go_at_call 72;refine(c2 _ _ (hpsC _ hpsA) (by simpa[blk_size,tokB,ncells]using hv (((Ck.blk w1 S.bp #[S.vt,.int .i64 S.F.code,.int .i64 S.F.at',S.vo,.int .i64 ((a:Int)+1)] 77).alloc (tokB t)).alloc (.cells (ncells ⟨15,t.at',0,[],0,0⟩ 0 (.slice none 0 0)) 90)))).mono ?_;rintro e w2 ⟨rfl,_,hps2,hf2⟩;clear c2;have hw1':=hfA.size;have hG:=((Gr.new ((Ck.blk w1 S.bp #[S.vt,.int .i64 S.F.code,.int .i64 S.F.at',S.vo,.int .i64 ((a:Int)+1)] 77).alloc (tokB t)) w.heap.size ⟨15,t.at',0,[],0,0⟩ hw1').fr ((Fr.refl [] _).alloc (.cells #[.string ⟨#[59]⟩] 9)) (by simp)).fr hf2 (by simp);simp only[World.size_alloc,blk_size]at hG;have hf02:=((hfA.alloc (.cells (ncells ⟨15,t.at',0,[],0,0⟩ 0 (.slice none 0 0)) 90)).alloc (.cells #[.string ⟨#[59]⟩] 9)).trans hf2.nil;have hw2:=hf2.size;simp only[World.size_alloc,blk_size]at hw2))
      have hf0:=hf02
      have hps0:=hps2
      obtain⟨c,hc⟩:∃c,Hid (c=w1.heap.size+1):=⟨_,rfl⟩
      rw[←hc.out]at hG ⊢
      clear hc hps2 hf02 hf2 hw2 hw1' hpsA hfA hpsB hfB hps1 hf1 hpsC kc kz kset kb kb' hv
      obtain⟨bs,hbs⟩:∃bs,Hid (bs=([]:List Nat)):=⟨_,rfl⟩
      obtain⟨vk,hvk⟩:∃vk:Value,Hid (vk=.slice none 0 0):=⟨_,rfl⟩
      rw[←hbs.out,←hvk.out]at hG
      clear hbs hvk
      obtain⟨ks,hks⟩:∃ks,Hid (ks=([]:List Tree)):=⟨_,rfl⟩
      have hkl:ks.length≤8:=by rw[hks.out];simp
      rw[←hks.out]at hG
      have hbw:=hf0.size
      obtain⟨kc,kz,kset,kb⟩:=hG.blk.rules
      simp only[ncells]at kc kset
      go_region_law (first|(refine step_append_lies _ rfl _ _ 88 rfl (c+1) 55 i0 (.pointer none) 1 8 Tryz.underlying88 hi hz0 hz1 hz2 rfl (by decide) vk ks.length (ptrs bs) rfl (by exact ownsRow_fr hG3.row ((Fr.refl [] _).alloc _) (by simp)) ⟨w3.heap.size,0,none⟩ 1 1 [ptrV b3] rfl rfl (World.news_of_block (Blk.new _ _ _)) (by simp[Value.oneCell',ptrV]) (by omega) (by simp[maxLen];omega) (by omega) (by have:=hG3.blk.lt;simp;omega) _ rfl ?_;intro g' cap' w8 hown8 hg8 hat8 hlt8;obtain⟨qc,qz,qset,qb⟩:=((hG3.blk.alloc _).grown hg8 (fun e=>by have:=(hG3.row.lt _ e).1;omega)).rules;simp only[ncells]at qc qset)|(go_simp;go_at_call 154;refine(ihe _ _ _ (hps0.fr (Fr.refl [] _).drew) hm3).mono ?_;rintro e w3 ⟨b3,a3,rfl,rfl,hps3,hf3,hs3⟩;have hG3:=(hG.fr (Fr.refl [] _).drew (by simp)).fr hf3 (by simp;omega);obtain⟨rc3,rz3,rset3,rb3⟩:=hG3.blk.rules;simp only[ncells]at rc3 rset3;have hw3:=hf3.size))
      all_goals
       have hK:Kids w3 w2.heap.size [b3] [E]:=Kids.one (show Sp w3 w2.heap.size w3.heap.size b3 E from hs3) (Nat.le_refl _)
       obtain⟨q1,q2,q3⟩:=Gr.stepL h hG hf0 (show Fr [S.bp] w2 w3 from(Fr.refl _ _).drew.trans hf3) hps3 hK hown8 hg8 hat8
       have hs:=q3.sp
       obtain⟨W3,hW3⟩:∃X,X=(Ck.blk w8 c (ncells ⟨15,t.at',0,[],0,0⟩ 0 (.slice (some ⟨g',0,none⟩) (ks.length+[E].length) cap')) 90):=⟨_,rfl⟩
       rw[←hW3]at q1 q2 hs
       rw[hks.out]at hs
       simp only[ncells,List.length_cons,List.length_nil,Nat.zero_add]at hW3
       rw[←hW3]
       clear hW3
       go_wp2_with (go_at_call 153;refine(end_ok (lo:=w.heap.size) q1 hs (by omega) (Nat.le_refl _) hm).mono ?_;rintro e w9 ⟨b9,a9,rfl,rfl,hps9,hf9,hs9⟩)
       go_ret
       exact⟨b9,a9,rfl,rfl,hps9,q2.trans hf9,hs9⟩
    ·simp only[if_true]at hm
     cases res with
     | error f =>
      go_enter Tryz.func103,Tryz.ntmps103
      go_wp2_with (first|(go_at_call 40;refine c1.mono ?_;rintro e w1 ⟨rfl,ha,hps1,hf1,hpsA,hfA,kb',hpsB,hfB,hw1⟩;clear c1;obtain⟨kc,kz,kset,kb⟩:=hps1.blk.rules)|(go_at_call 39;refine(node_any _ _ _ _ _ ⟨_,_,_,rfl⟩).mono ?_;rintro e w9 ⟨rfl,rfl⟩)|(go_at_call 72;refine(c2 _ _ (hpsC _ hpsA) (by simpa[blk_size,tokB,ncells]using hv (((Ck.blk w1 S.bp #[S.vt,.int .i64 S.F.code,.int .i64 S.F.at',S.vo,.int .i64 ((a:Int)+1)] 77).alloc (tokB t)).alloc (.cells (ncells ⟨15,t.at',0,[],0,0⟩ 0 (.slice none 0 0)) 90)))).mono ?_;rintro e w2 ⟨rfl,_,hps2,hf2⟩;clear c2;have hw1':=hfA.size;have hG:=((Gr.new ((Ck.blk w1 S.bp #[S.vt,.int .i64 S.F.code,.int .i64 S.F.at',S.vo,.int .i64 ((a:Int)+1)] 77).alloc (tokB t)) w.heap.size ⟨15,t.at',0,[],0,0⟩ hw1').fr ((Fr.refl [] _).alloc (.cells #[.string ⟨#[59]⟩] 9)) (by simp)).fr hf2 (by simp);simp only[World.size_alloc,blk_size]at hG;have hf02:=((hfA.alloc (.cells (ncells ⟨15,t.at',0,[],0,0⟩ 0 (.slice none 0 0)) 90)).alloc (.cells #[.string ⟨#[59]⟩] 9)).trans hf2.nil;have hw2:=hf2.size;simp only[World.size_alloc,blk_size]at hw2)|(go_at_call 153;refine(end_er hps2 hm).mono ?_;rintro e w9 ⟨rfl,hf9⟩))
      exact⟨rfl,rfl,(hf02).trans hf9⟩
     | ok p =>
      obtain⟨T,ts9⟩:=p
      go_enter Tryz.func103,Tryz.ntmps103
      go_wp2_with (first|(go_at_call 40;refine c1.mono ?_;rintro e w1 ⟨rfl,ha,hps1,hf1,hpsA,hfA,kb',hpsB,hfB,hw1⟩;clear c1;obtain⟨kc,kz,kset,kb⟩:=hps1.blk.rules)|(go_at_call 39;refine(node_any _ _ _ _ _ ⟨_,_,_,rfl⟩).mono ?_;rintro e w9 ⟨rfl,rfl⟩)|(go_at_call 72;refine(c2 _ _ (hpsC _ hpsA) (by simpa[blk_size,tokB,ncells]using hv (((Ck.blk w1 S.bp #[S.vt,.int .i64 S.F.code,.int .i64 S.F.at',S.vo,.int .i64 ((a:Int)+1)] 77).alloc (tokB t)).alloc (.cells (ncells ⟨15,t.at',0,[],0,0⟩ 0 (.slice none 0 0)) 90)))).mono ?_;rintro e w2 ⟨rfl,_,hps2,hf2⟩;clear c2;have hw1':=hfA.size;have hG:=((Gr.new ((Ck.blk w1 S.bp #[S.vt,.int .i64 S.F.code,.int .i64 S.F.at',S.vo,.int .i64 ((a:Int)+1)] 77).alloc (tokB t)) w.heap.size ⟨15,t.at',0,[],0,0⟩ hw1').fr ((Fr.refl [] _).alloc (.cells #[.string ⟨#[59]⟩] 9)) (by simp)).fr hf2 (by simp);simp only[World.size_alloc,blk_size]at hG;have hf02:=((hfA.alloc (.cells (ncells ⟨15,t.at',0,[],0,0⟩ 0 (.slice none 0 0)) 90)).alloc (.cells #[.string ⟨#[59]⟩] 9)).trans hf2.nil;have hw2:=hf2.size;simp only[World.size_alloc,blk_size]at hw2)|(go_at_call 153;refine(end_ok (lo:=w.heap.size) hps2 hG.sp (by omega) (Nat.le_refl _) hm).mono ?_;rintro e w9 ⟨b9,a9,rfl,rfl,hps9,hf9,hs9⟩))
      go_ret
      exact⟨b9,a9,rfl,rfl,hps9,(hf02).trans hf9,hs9⟩
   cases xo:t.text==[111,117,116]
   case true =>
    simp only[xl,xi,xw,xf,xb,xc,xr,xo,Bool.false_or,Bool.or_false,Bool.or_true,Bool.true_or,Bool.or_self,Bool.false_eq_true,if_false,if_true]at hm
    rw[bind_eq,P.bind,adv_eq]at hm
    simp only at hm
    obtain⟨e,hm4,rfl⟩|⟨E,ts4,hm4,hm⟩:=bind_some hm
    ·go_enter Tryz.func103,Tryz.ntmps103
     go_wp2_with (first|(go_at_call 40;refine c1.mono ?_;rintro e w1 ⟨rfl,ha,hps1,hf1,hpsA,hfA,kb',hpsB,hfB,hw1⟩;clear c1;obtain⟨kc,kz,kset,kb⟩:=hps1.blk.rules))
     go_region_dies
     all_goals (go_at_call 154;refine(ihe _ _ _ (hpsA.fr (Fr.refl [] _).drew) hm4).mono ?_;rintro e w4 ⟨rfl,hf4⟩)
     all_goals exact⟨rfl,rfl,(hfA.drew).trans hf4⟩
    cases res with
    | error f =>
     go_enter Tryz.func103,Tryz.ntmps103
     go_wp2_with (first|(go_at_call 40;refine c1.mono ?_;rintro e w1 ⟨rfl,ha,hps1,hf1,hpsA,hfA,kb',hpsB,hfB,hw1⟩;clear c1;obtain⟨kc,kz,kset,kb⟩:=hps1.blk.rules))
     have hTB:Blk ((Ck.blk w1 S.bp #[S.vt,.int .i64 S.F.code,.int .i64 S.F.at',S.vo,.int .i64 ((a:Int)+1)] 77).alloc (tokB t)) w1.heap.size #[.int .i64 t.kind,.int .i64 t.at',.string ⟨t.text.toArray⟩,.int .i64 t.int,.int .u64 t.bits] 82:=by have:=Blk.new (Ck.blk w1 S.bp #[S.vt,.int .i64 S.F.code,.int .i64 S.F.at',S.vo,.int .i64 ((a:Int)+1)] 77) #[.int .i64 t.kind,.int .i64 t.at',.string ⟨t.text.toArray⟩,.int .i64 t.int,.int .u64 t.bits] 82;rwa [blk_size]at this
     have hT1:((Ck.blk w1 S.bp #[S.vt,.int .i64 S.F.code,.int .i64 S.F.at',S.vo,.int .i64 ((a:Int)+1)] 77).alloc (tokB t)).cell? ⟨w1.heap.size,1,none⟩=some (.int .i64 t.at'):=by rw[hTB.rules.1];rfl
     go_region_held2 (fun X=>X.cell? ⟨w1.heap.size,1,none⟩=some (.int .i64 t.at')) (first|go_keep|(rw[mc];rfl)|exact hT1|exact False.elim hF.out) (first|(go_at_call 154;refine(ihe _ _ _ (hpsA.fr (Fr.refl [] _).drew) hm4).mono ?_;rintro e w4 ⟨b4,a4,rfl,rfl,hps4,hf4,hs4⟩;have hNB4:=(show Blk ((Ck.blk w1 S.bp #[S.vt,.int .i64 S.F.code,.int .i64 S.F.at',S.vo,.int .i64 ((a:Int)+1)] 77).alloc (tokB t)).drew _ _ _ from hTB).fr hf4 (by simp;omega);obtain⟨mc,mz,mset,mb⟩:=hNB4.rules;have hf04:=hfA.drew.trans hf4;have hw4:=hf4.size)|(go_at_call 39;refine(node_any _ _ _ _ _ ⟨_,_,_,rfl⟩).mono ?_;rintro e w9 ⟨rfl,rfl⟩)|(go_at_call 153;refine(Calls.or_dead (end_er (hps4.fr (((Fr.refl [] _).alloc _).alloc _)) hm)).mono ?_;rintro e w9 (⟨rfl,hf9⟩|⟨rfl,hF⟩);exact⟨rfl,rfl,(hf04.alloc _).alloc _ |>.trans hf9⟩))
     exact False.elim hF.out
    | ok p =>
     obtain⟨T,ts9⟩:=p
     go_enter Tryz.func103,Tryz.ntmps103
     go_wp2_with (first|(go_at_call 40;refine c1.mono ?_;rintro e w1 ⟨rfl,ha,hps1,hf1,hpsA,hfA,kb',hpsB,hfB,hw1⟩;clear c1;obtain⟨kc,kz,kset,kb⟩:=hps1.blk.rules))
     have hTB:Blk ((Ck.blk w1 S.bp #[S.vt,.int .i64 S.F.code,.int .i64 S.F.at',S.vo,.int .i64 ((a:Int)+1)] 77).alloc (tokB t)) w1.heap.size #[.int .i64 t.kind,.int .i64 t.at',.string ⟨t.text.toArray⟩,.int .i64 t.int,.int .u64 t.bits] 82:=by have:=Blk.new (Ck.blk w1 S.bp #[S.vt,.int .i64 S.F.code,.int .i64 S.F.at',S.vo,.int .i64 ((a:Int)+1)] 77) #[.int .i64 t.kind,.int .i64 t.at',.string ⟨t.text.toArray⟩,.int .i64 t.int,.int .u64 t.bits] 82;rwa [blk_size]at this
     have hT1:((Ck.blk w1 S.bp #[S.vt,.int .i64 S.F.code,.int .i64 S.F.at',S.vo,.int .i64 ((a:Int)+1)] 77).alloc (tokB t)).cell? ⟨w1.heap.size,1,none⟩=some (.int .i64 t.at'):=by rw[hTB.rules.1];rfl
     go_region_held2 (fun X=>X.cell? ⟨w1.heap.size,1,none⟩=some (.int .i64 t.at')) (first|go_keep|(rw[mc];rfl)|exact hT1|exact he1) (first|(go_at_call 154;refine(ihe _ _ _ (hpsA.fr (Fr.refl [] _).drew) hm4).mono ?_;rintro e w4 ⟨b4,a4,rfl,rfl,hps4,hf4,hs4⟩;have hNB4:=(show Blk ((Ck.blk w1 S.bp #[S.vt,.int .i64 S.F.code,.int .i64 S.F.at',S.vo,.int .i64 ((a:Int)+1)] 77).alloc (tokB t)).drew _ _ _ from hTB).fr hf4 (by simp;omega);obtain⟨mc,mz,mset,mb⟩:=hNB4.rules;have hf04:=hfA.drew.trans hf4;have hw4:=hf4.size)|(go_at_call 39;refine(node_any _ _ _ _ _ ⟨_,_,_,rfl⟩).mono ?_;rintro e w9 ⟨rfl,rfl⟩)|(go_at_call 153;refine(end_ok (lo:=w.heap.size) (hps4.fr (((Fr.refl [] _).alloc _).alloc _)) (by simpa[ncells,ptrs,ptrV,leaf] using(Kids.one (show Sp w4 w.heap.size w4.heap.size b4 E from hs4.wide (by simpa using hfA.size) (Nat.le_refl _)) (Nat.le_refl _)).made ⟨16,t.at',0,[],0,0⟩ 0 (by simp) hf04.size) (by omega) (by simp) hm).mono ?_;rintro e w9 ⟨b9,a9,rfl,rfl,hps9,hf9,hs9⟩;have hfz:=(((Fr.refl [] w4).alloc _).alloc _).nil.trans hf9;have he1:=hfz.cell (show w4.cell? ⟨w1.heap.size,1,none⟩=some (.int .i64 t.at')by rw[mc];rfl) (by simp;omega)))
     go_wp2
     go_ret
     exact⟨b9,a9,rfl,rfl,hps9,((hf04.alloc _).alloc _).trans hf9,hs9⟩
   simp only[xl,xi,xw,xf,xb,xc,xr,xo,Bool.false_or,Bool.or_false,Bool.or_true,Bool.true_or,Bool.or_self,Bool.false_eq_true,if_false,if_true]at hm
   cases res with
   | error f =>
    go_enter Tryz.func103,Tryz.ntmps103
    go_wp2_with (first|(go_at_call 40;refine c1.mono ?_;rintro e w1 ⟨rfl,ha,hps1,hf1,hpsA,hfA,kb',hpsB,hfB,hw1⟩;clear c1;obtain⟨kc,kz,kset,kb⟩:=hps1.blk.rules)|(go_at_call 152;refine(plain_any hsat ihe _ _ _ hpsB hm).mono ?_;rintro e w9 hO;obtain⟨rfl,hf9⟩:=hO))
    exact⟨rfl,rfl,(hfB).trans hf9⟩
   | ok p =>
    obtain⟨T,ts9⟩:=p
    go_enter Tryz.func103,Tryz.ntmps103
    go_wp2_with (first|(go_at_call 40;refine c1.mono ?_;rintro e w1 ⟨rfl,ha,hps1,hf1,hpsA,hfA,kb',hpsB,hfB,hw1⟩;clear c1;obtain⟨kc,kz,kset,kb⟩:=hps1.blk.rules)|(go_at_call 152;refine(plain_any hsat ihe _ _ _ hpsB hm).mono ?_;rintro e w9 hO;obtain⟨b9,a9,rfl,rfl,hps9,hf9,hs9⟩:=hO))
    go_ret
    exact⟨b9,a9,rfl,rfl,hps9,(hfB).trans hf9,hs9.wide (hfB).size (Nat.le_refl _)⟩
 ·have h2:(t.kind==2)=false:=by rw[beq_iff_eq.1 h1];rfl
  have h2':(t.kind != 2)=true:=by rw[bne,h2];rfl
  simp only[h1,h2,Bool.false_eq_true,if_false,if_true]at hm
  obtain⟨e,hm2,rfl⟩|⟨q,ts2,hm2,hm⟩:=bind_some hm
  ·obtain⟨e,hm3,h0⟩|⟨d,ts3,_,h0⟩:=bind_some hm2
   ·cases h0
    go_enter Tryz.func103,Tryz.ntmps103
    go_wp2_with (first|(go_at_call 40;refine c1.mono ?_;rintro e w1 ⟨rfl,ha,hps1,hf1,hpsA,hfA,kb',hpsB,hfB,hw1⟩;clear c1;obtain⟨kc,kz,kset,kb⟩:=hps1.blk.rules)|(go_at_call 40;refine(look1_er hpsB hm3).mono ?_;rintro e w2 ⟨rfl,hf2⟩))
    exact⟨rfl,rfl,hfB.trans hf2⟩
   ·cases h0
  obtain⟨e,_,h0⟩|⟨d,ts3,hm3,h0⟩:=bind_some hm2
  ·cases h0
  rw[pure_eq]at h0
  simp only[Option.some.injEq,Except.ok.injEq,Prod.mk.injEq]at h0
  obtain⟨rfl,rfl⟩:=h0
  have c2:=fun W (hW:PS S a W)=>look1_ok hW hm3
  obtain rfl:ts3=S.ts a:=by unfold look1 at hm3;split at hm3<;>first|(cases hm3;rfl)|cases hm3
  clear hm3 hm2
  cases x3:d.kind==3
  ·simp only[x3,Bool.false_and,Bool.false_eq_true,if_false]at hm
   cases res with
   | error f =>
    go_enter Tryz.func103,Tryz.ntmps103
    go_wp2_with (first|(go_at_call 40;refine c1.mono ?_;rintro e w1 ⟨rfl,ha,hps1,hf1,hpsA,hfA,kb',hpsB,hfB,hw1⟩;clear c1;obtain⟨kc,kz,kset,kb⟩:=hps1.blk.rules)|(go_at_call 40;refine(c2 _ hpsB).mono ?_;rintro e w2 ⟨rfl,_,ha2,hps2,hf2⟩;clear c2;have hfC:=hfB.trans hf2.nil;have hNB:=((Blk.new w1 #[.int .i64 t.kind,.int .i64 t.at',.string ⟨t.text.toArray⟩,.int .i64 t.int,.int .u64 t.bits] 82).fr hf2 (by simp)).alloc (tokB d);obtain⟨nc,nz,nset,nb⟩:=((Blk.new w1 #[.int .i64 t.kind,.int .i64 t.at',.string ⟨t.text.toArray⟩,.int .i64 t.int,.int .u64 t.bits] 82).fr hf2 (by simp)).rules;obtain⟨rc,rz,rset,rb⟩:=hps2.blk.rules;have rb':∀k,S.bp<w2.heap.size+k:=(fun k=>by omega);have hw2:=hf2.size;simp only[World.size_alloc]at hw2)|(go_at_call 152;refine(plain_any hsat ihe _ _ _ (hps2.fr ((Fr.refl [] _).alloc (tokB d))) hm).mono ?_;rintro e w9 hO;obtain⟨rfl,hf9⟩:=hO))
    exact⟨rfl,rfl,((hfC.alloc (tokB d))).trans hf9⟩
   | ok p =>
    obtain⟨T,ts9⟩:=p
    go_enter Tryz.func103,Tryz.ntmps103
    go_wp2_with (first|(go_at_call 40;refine c1.mono ?_;rintro e w1 ⟨rfl,ha,hps1,hf1,hpsA,hfA,kb',hpsB,hfB,hw1⟩;clear c1;obtain⟨kc,kz,kset,kb⟩:=hps1.blk.rules)|(go_at_call 40;refine(c2 _ hpsB).mono ?_;rintro e w2 ⟨rfl,_,ha2,hps2,hf2⟩;clear c2;have hfC:=hfB.trans hf2.nil;have hNB:=((Blk.new w1 #[.int .i64 t.kind,.int .i64 t.at',.string ⟨t.text.toArray⟩,.int .i64 t.int,.int .u64 t.bits] 82).fr hf2 (by simp)).alloc (tokB d);obtain⟨nc,nz,nset,nb⟩:=((Blk.new w1 #[.int .i64 t.kind,.int .i64 t.at',.string ⟨t.text.toArray⟩,.int .i64 t.int,.int .u64 t.bits] 82).fr hf2 (by simp)).rules;obtain⟨rc,rz,rset,rb⟩:=hps2.blk.rules;have rb':∀k,S.bp<w2.heap.size+k:=(fun k=>by omega);have hw2:=hf2.size;simp only[World.size_alloc]at hw2)|(go_at_call 152;refine(plain_any hsat ihe _ _ _ (hps2.fr ((Fr.refl [] _).alloc (tokB d))) hm).mono ?_;rintro e w9 hO;obtain⟨b9,a9,rfl,rfl,hps9,hf9,hs9⟩:=hO))
    go_ret
    exact⟨b9,a9,rfl,rfl,hps9,((hfC.alloc (tokB d))).trans hf9,hs9.wide ((hfC.alloc (tokB d))).size (Nat.le_refl _)⟩
  cases x5:d.text==[58]
  ·simp only[x3,x5,Bool.and_false,Bool.false_eq_true,if_false]at hm
   cases res with
   | error f =>
    go_enter Tryz.func103,Tryz.ntmps103
    go_wp2_with (first|(go_at_call 40;refine c1.mono ?_;rintro e w1 ⟨rfl,ha,hps1,hf1,hpsA,hfA,kb',hpsB,hfB,hw1⟩;clear c1;obtain⟨kc,kz,kset,kb⟩:=hps1.blk.rules)|(go_at_call 40;refine(c2 _ hpsB).mono ?_;rintro e w2 ⟨rfl,_,ha2,hps2,hf2⟩;clear c2;have hfC:=hfB.trans hf2.nil;have hNB:=((Blk.new w1 #[.int .i64 t.kind,.int .i64 t.at',.string ⟨t.text.toArray⟩,.int .i64 t.int,.int .u64 t.bits] 82).fr hf2 (by simp)).alloc (tokB d);obtain⟨nc,nz,nset,nb⟩:=((Blk.new w1 #[.int .i64 t.kind,.int .i64 t.at',.string ⟨t.text.toArray⟩,.int .i64 t.int,.int .u64 t.bits] 82).fr hf2 (by simp)).rules;obtain⟨rc,rz,rset,rb⟩:=hps2.blk.rules;have rb':∀k,S.bp<w2.heap.size+k:=(fun k=>by omega);have hw2:=hf2.size;simp only[World.size_alloc]at hw2)|(go_at_call 152;refine(plain_any hsat ihe _ _ _ (hps2.fr ((Fr.refl [] _).alloc (tokB d))) hm).mono ?_;rintro e w9 hO;obtain⟨rfl,hf9⟩:=hO))
    exact⟨rfl,rfl,((hfC.alloc (tokB d))).trans hf9⟩
   | ok p =>
    obtain⟨T,ts9⟩:=p
    go_enter Tryz.func103,Tryz.ntmps103
    go_wp2_with (first|(go_at_call 40;refine c1.mono ?_;rintro e w1 ⟨rfl,ha,hps1,hf1,hpsA,hfA,kb',hpsB,hfB,hw1⟩;clear c1;obtain⟨kc,kz,kset,kb⟩:=hps1.blk.rules)|(go_at_call 40;refine(c2 _ hpsB).mono ?_;rintro e w2 ⟨rfl,_,ha2,hps2,hf2⟩;clear c2;have hfC:=hfB.trans hf2.nil;have hNB:=((Blk.new w1 #[.int .i64 t.kind,.int .i64 t.at',.string ⟨t.text.toArray⟩,.int .i64 t.int,.int .u64 t.bits] 82).fr hf2 (by simp)).alloc (tokB d);obtain⟨nc,nz,nset,nb⟩:=((Blk.new w1 #[.int .i64 t.kind,.int .i64 t.at',.string ⟨t.text.toArray⟩,.int .i64 t.int,.int .u64 t.bits] 82).fr hf2 (by simp)).rules;obtain⟨rc,rz,rset,rb⟩:=hps2.blk.rules;have rb':∀k,S.bp<w2.heap.size+k:=(fun k=>by omega);have hw2:=hf2.size;simp only[World.size_alloc]at hw2)|(go_at_call 152;refine(plain_any hsat ihe _ _ _ (hps2.fr ((Fr.refl [] _).alloc (tokB d))) hm).mono ?_;rintro e w9 hO;obtain⟨b9,a9,rfl,rfl,hps9,hf9,hs9⟩:=hO))
    go_ret
    exact⟨b9,a9,rfl,rfl,hps9,((hfC.alloc (tokB d))).trans hf9,hs9.wide ((hfC.alloc (tokB d))).size (Nat.le_refl _)⟩
  simp only[x3,x5,Bool.and_self,if_true]at hm
  rw[bind_eq,P.bind,adv_eq]at hm
  simp only at hm
  rw[bind_eq,P.bind,adv_eq]at hm
  simp only at hm
  have hv:∀W:World,StrSlice (W.alloc (.cells #[.string ⟨#[119,104,105,108,101]⟩,.string ⟨#[102,111,114]⟩] 9)) (.slice (some ⟨W.heap.size,0,none⟩) 2 2) [[119,104,105,108,101],[102,111,114]]:=fun W=>strL W [[119,104,105,108,101],[102,111,114]]
  obtain⟨e,hm4,rfl⟩|⟨q,ts4,hm4,hm⟩:=bind_some hm
  ·go_enter Tryz.func103,Tryz.ntmps103
   go_wp2_with (first|(go_at_call 40;refine c1.mono ?_;rintro e w1 ⟨rfl,ha,hps1,hf1,hpsA,hfA,kb',hpsB,hfB,hw1⟩;clear c1;obtain⟨kc,kz,kset,kb⟩:=hps1.blk.rules)|(go_at_call 40;refine(c2 _ hpsB).mono ?_;rintro e w2 ⟨rfl,_,ha2,hps2,hf2⟩;clear c2;have hfC:=hfB.trans hf2.nil;have hNB:=((Blk.new w1 #[.int .i64 t.kind,.int .i64 t.at',.string ⟨t.text.toArray⟩,.int .i64 t.int,.int .u64 t.bits] 82).fr hf2 (by simp)).alloc (tokB d);obtain⟨nc,nz,nset,nb⟩:=((Blk.new w1 #[.int .i64 t.kind,.int .i64 t.at',.string ⟨t.text.toArray⟩,.int .i64 t.int,.int .u64 t.bits] 82).fr hf2 (by simp)).rules;obtain⟨rc,rz,rset,rb⟩:=hps2.blk.rules;have rb':∀k,S.bp<w2.heap.size+k:=(fun k=>by omega);have hw2:=hf2.size;simp only[World.size_alloc]at hw2;have hps3:PS S (a+1+1) (Ck.blk w2 S.bp #[S.vt,.int .i64 S.F.code,.int .i64 S.F.at',S.vo,.int .i64 ((a:Int)+2)] 77):=hps2.go (w':=(Ck.blk w2 S.bp #[S.vt,.int .i64 S.F.code,.int .i64 S.F.at',S.vo,.int .i64 ((a:Int)+2)] 77)) ((Fr.refl _ _).blk (by simp) _ _) (Blk.blk hps2.blk.lt) ha2;have hps4:=(hps3.fr ((Fr.refl [] _).alloc (tokB d))).fr ((Fr.refl [] _).alloc (.cells #[.string ⟨#[119,104,105,108,101]⟩,.string ⟨#[102,111,114]⟩] 9));have hf4:=((hfC.blk (b:=S.bp) (.inl (by simp)) #[S.vt,.int .i64 S.F.code,.int .i64 S.F.at',S.vo,.int .i64 ((a:Int)+2)] 77).alloc (tokB d)).alloc (.cells #[.string ⟨#[119,104,105,108,101]⟩,.string ⟨#[102,111,114]⟩] 9))|(go_at_call 72;refine(sees_er hps4 (by simpa[blk_size,tokB]using hv ((Ck.blk w2 S.bp #[S.vt,.int .i64 S.F.code,.int .i64 S.F.at',S.vo,.int .i64 ((a:Int)+2)] 77).alloc (tokB d))) (by simp) hm4).mono ?_;rintro e w5 ⟨rfl,hf5⟩))
   exact⟨rfl,rfl,hf4.trans hf5⟩
  have e4:ts4=S.ts (a+1+1):=by rw[sees_eq]at hm4;split at hm4<;>first|(cases hm4;rfl)|cases hm4
  subst e4
  cases q
  ·simp only[Bool.false_eq_true,if_false]at hm
   obtain⟨f,rfl,cw⟩:=wrong_res hm
   clear hm
   go_enter Tryz.func103,Tryz.ntmps103
   go_wp2_with (first|(go_at_call 40;refine c1.mono ?_;rintro e w1 ⟨rfl,ha,hps1,hf1,hpsA,hfA,kb',hpsB,hfB,hw1⟩;clear c1;obtain⟨kc,kz,kset,kb⟩:=hps1.blk.rules)|(go_at_call 40;refine(c2 _ hpsB).mono ?_;rintro e w2 ⟨rfl,_,ha2,hps2,hf2⟩;clear c2;have hfC:=hfB.trans hf2.nil;have hNB:=((Blk.new w1 #[.int .i64 t.kind,.int .i64 t.at',.string ⟨t.text.toArray⟩,.int .i64 t.int,.int .u64 t.bits] 82).fr hf2 (by simp)).alloc (tokB d);obtain⟨nc,nz,nset,nb⟩:=((Blk.new w1 #[.int .i64 t.kind,.int .i64 t.at',.string ⟨t.text.toArray⟩,.int .i64 t.int,.int .u64 t.bits] 82).fr hf2 (by simp)).rules;obtain⟨rc,rz,rset,rb⟩:=hps2.blk.rules;have rb':∀k,S.bp<w2.heap.size+k:=(fun k=>by omega);have hw2:=hf2.size;simp only[World.size_alloc]at hw2;have hps3:PS S (a+1+1) (Ck.blk w2 S.bp #[S.vt,.int .i64 S.F.code,.int .i64 S.F.at',S.vo,.int .i64 ((a:Int)+2)] 77):=hps2.go (w':=(Ck.blk w2 S.bp #[S.vt,.int .i64 S.F.code,.int .i64 S.F.at',S.vo,.int .i64 ((a:Int)+2)] 77)) ((Fr.refl _ _).blk (by simp) _ _) (Blk.blk hps2.blk.lt) ha2;have hps4:=(hps3.fr ((Fr.refl [] _).alloc (tokB d))).fr ((Fr.refl [] _).alloc (.cells #[.string ⟨#[119,104,105,108,101]⟩,.string ⟨#[102,111,114]⟩] 9));have hf4:=((hfC.blk (b:=S.bp) (.inl (by simp)) #[S.vt,.int .i64 S.F.code,.int .i64 S.F.at',S.vo,.int .i64 ((a:Int)+2)] 77).alloc (tokB d)).alloc (.cells #[.string ⟨#[119,104,105,108,101]⟩,.string ⟨#[102,111,114]⟩] 9))|(go_at_call 72;refine(sees_ok hps4 (by simpa[blk_size,tokB]using hv ((Ck.blk w2 S.bp #[S.vt,.int .i64 S.F.code,.int .i64 S.F.at',S.vo,.int .i64 ((a:Int)+2)] 77).alloc (tokB d))) (by simp) hm4).mono ?_;rintro e w5 ⟨rfl,_,hps5,hf5⟩;have hf05:=hf4.trans hf5.nil)|(go_at_call 45;refine(cw _ _ rfl hps5).mono ?_;rintro e w8 ⟨rfl,hf8⟩))
   exact⟨rfl,rfl,(hf05).trans hf8⟩
  ·simp only[if_true]at hm
   cases res with
   | error f =>
    go_enter Tryz.func103,Tryz.ntmps103
    go_wp2_with (first|(go_at_call 40;refine c1.mono ?_;rintro e w1 ⟨rfl,ha,hps1,hf1,hpsA,hfA,kb',hpsB,hfB,hw1⟩;clear c1;obtain⟨kc,kz,kset,kb⟩:=hps1.blk.rules)|(go_at_call 40;refine(c2 _ hpsB).mono ?_;rintro e w2 ⟨rfl,_,ha2,hps2,hf2⟩;clear c2;have hfC:=hfB.trans hf2.nil;have hNB:=((Blk.new w1 #[.int .i64 t.kind,.int .i64 t.at',.string ⟨t.text.toArray⟩,.int .i64 t.int,.int .u64 t.bits] 82).fr hf2 (by simp)).alloc (tokB d);obtain⟨nc,nz,nset,nb⟩:=((Blk.new w1 #[.int .i64 t.kind,.int .i64 t.at',.string ⟨t.text.toArray⟩,.int .i64 t.int,.int .u64 t.bits] 82).fr hf2 (by simp)).rules;obtain⟨rc,rz,rset,rb⟩:=hps2.blk.rules;have rb':∀k,S.bp<w2.heap.size+k:=(fun k=>by omega);have hw2:=hf2.size;simp only[World.size_alloc]at hw2;have hps3:PS S (a+1+1) (Ck.blk w2 S.bp #[S.vt,.int .i64 S.F.code,.int .i64 S.F.at',S.vo,.int .i64 ((a:Int)+2)] 77):=hps2.go (w':=(Ck.blk w2 S.bp #[S.vt,.int .i64 S.F.code,.int .i64 S.F.at',S.vo,.int .i64 ((a:Int)+2)] 77)) ((Fr.refl _ _).blk (by simp) _ _) (Blk.blk hps2.blk.lt) ha2;have hps4:=(hps3.fr ((Fr.refl [] _).alloc (tokB d))).fr ((Fr.refl [] _).alloc (.cells #[.string ⟨#[119,104,105,108,101]⟩,.string ⟨#[102,111,114]⟩] 9));have hf4:=((hfC.blk (b:=S.bp) (.inl (by simp)) #[S.vt,.int .i64 S.F.code,.int .i64 S.F.at',S.vo,.int .i64 ((a:Int)+2)] 77).alloc (tokB d)).alloc (.cells #[.string ⟨#[119,104,105,108,101]⟩,.string ⟨#[102,111,114]⟩] 9))|(go_at_call 72;refine(sees_ok hps4 (by simpa[blk_size,tokB]using hv ((Ck.blk w2 S.bp #[S.vt,.int .i64 S.F.code,.int .i64 S.F.at',S.vo,.int .i64 ((a:Int)+2)] 77).alloc (tokB d))) (by simp) hm4).mono ?_;rintro e w5 ⟨rfl,_,hps5,hf5⟩;clear hm4;have hf05:=hf4.trans hf5.nil;have hL:LabelAt S w5 (.pointer (some ⟨w1.heap.size,0,none⟩)) (some t):=⟨_,rfl,((Blk.blk_other ((Blk.new w1 #[.int .i64 t.kind,.int .i64 t.at',.string ⟨t.text.toArray⟩,.int .i64 t.int,.int .u64 t.bits] 82).fr hf2 (by simp)) (by omega) |>.alloc (tokB d)).alloc (.cells #[.string ⟨#[119,104,105,108,101]⟩,.string ⟨#[102,111,114]⟩] 9)).fr hf5 (by simp),by omega⟩)|(go_at_call 151;refine(ihl (some t) _ _ _ _ hL hps5 hm).mono ?_;rintro e w9 hO;obtain⟨rfl,hf9⟩:=hO))
    exact⟨rfl,rfl,(hf05).trans hf9⟩
   | ok p =>
    obtain⟨T,ts9⟩:=p
    go_enter Tryz.func103,Tryz.ntmps103
    go_wp2_with (first|(go_at_call 40;refine c1.mono ?_;rintro e w1 ⟨rfl,ha,hps1,hf1,hpsA,hfA,kb',hpsB,hfB,hw1⟩;clear c1;obtain⟨kc,kz,kset,kb⟩:=hps1.blk.rules)|(go_at_call 40;refine(c2 _ hpsB).mono ?_;rintro e w2 ⟨rfl,_,ha2,hps2,hf2⟩;clear c2;have hfC:=hfB.trans hf2.nil;have hNB:=((Blk.new w1 #[.int .i64 t.kind,.int .i64 t.at',.string ⟨t.text.toArray⟩,.int .i64 t.int,.int .u64 t.bits] 82).fr hf2 (by simp)).alloc (tokB d);obtain⟨nc,nz,nset,nb⟩:=((Blk.new w1 #[.int .i64 t.kind,.int .i64 t.at',.string ⟨t.text.toArray⟩,.int .i64 t.int,.int .u64 t.bits] 82).fr hf2 (by simp)).rules;obtain⟨rc,rz,rset,rb⟩:=hps2.blk.rules;have rb':∀k,S.bp<w2.heap.size+k:=(fun k=>by omega);have hw2:=hf2.size;simp only[World.size_alloc]at hw2;have hps3:PS S (a+1+1) (Ck.blk w2 S.bp #[S.vt,.int .i64 S.F.code,.int .i64 S.F.at',S.vo,.int .i64 ((a:Int)+2)] 77):=hps2.go (w':=(Ck.blk w2 S.bp #[S.vt,.int .i64 S.F.code,.int .i64 S.F.at',S.vo,.int .i64 ((a:Int)+2)] 77)) ((Fr.refl _ _).blk (by simp) _ _) (Blk.blk hps2.blk.lt) ha2;have hps4:=(hps3.fr ((Fr.refl [] _).alloc (tokB d))).fr ((Fr.refl [] _).alloc (.cells #[.string ⟨#[119,104,105,108,101]⟩,.string ⟨#[102,111,114]⟩] 9));have hf4:=((hfC.blk (b:=S.bp) (.inl (by simp)) #[S.vt,.int .i64 S.F.code,.int .i64 S.F.at',S.vo,.int .i64 ((a:Int)+2)] 77).alloc (tokB d)).alloc (.cells #[.string ⟨#[119,104,105,108,101]⟩,.string ⟨#[102,111,114]⟩] 9))|(go_at_call 72;refine(sees_ok hps4 (by simpa[blk_size,tokB]using hv ((Ck.blk w2 S.bp #[S.vt,.int .i64 S.F.code,.int .i64 S.F.at',S.vo,.int .i64 ((a:Int)+2)] 77).alloc (tokB d))) (by simp) hm4).mono ?_;rintro e w5 ⟨rfl,_,hps5,hf5⟩;clear hm4;have hf05:=hf4.trans hf5.nil;have hL:LabelAt S w5 (.pointer (some ⟨w1.heap.size,0,none⟩)) (some t):=⟨_,rfl,((Blk.blk_other ((Blk.new w1 #[.int .i64 t.kind,.int .i64 t.at',.string ⟨t.text.toArray⟩,.int .i64 t.int,.int .u64 t.bits] 82).fr hf2 (by simp)) (by omega) |>.alloc (tokB d)).alloc (.cells #[.string ⟨#[119,104,105,108,101]⟩,.string ⟨#[102,111,114]⟩] 9)).fr hf5 (by simp),by omega⟩)|(go_at_call 151;refine(ihl (some t) _ _ _ _ hL hps5 hm).mono ?_;rintro e w9 hO;obtain⟨b9,a9,rfl,rfl,hps9,hf9,hs9⟩:=hO))
    go_ret
    exact⟨b9,a9,rfl,rfl,hps9,(hf05).trans hf9,hs9.wide (hf05).size (Nat.le_refl _)⟩
end Go.Proofs.YtoomapkcoibmhaaGreatDoor
end
