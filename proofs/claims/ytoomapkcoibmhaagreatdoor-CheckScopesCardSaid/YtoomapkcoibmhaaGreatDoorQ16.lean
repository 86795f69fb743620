/- A part of the proof. -/
import Derived.Test.YtoomapkcoibmhaaGreatDoorQ15
set_option maxRecDepth 100000
set_option maxHeartbeats 12800000
set_option linter.all false
section
open Go Go.Proofs Go.RowKit Go.Shelf Ck
namespace Go.Proofs.YtoomapkcoibmhaaGreatDoor
theorem loop_any {S:PSt} {r:Rec} (ihe:MAny 154 S r.expr) (ihb:MAny 73 S r.block):LoopAny S (pLoop S.F r):=by
 intro l v a w res hl h hm0
 have hbp:=h.blk.lt
 obtain⟨i0,hi,hz0,hz1,hz2⟩:=info_parts Tryz.infoSprout
 unfold pLoop at hm0
 obtain⟨e,hm1,rfl⟩|⟨t,ts1,hm1,hm⟩:=bind_some hm0
 ·have hvp:∃p,v=.pointer p:=by
   cases l with
   | none=>exact⟨_,hl⟩
   | some l=>obtain⟨bt,rfl,_⟩:=hl;exact⟨_,rfl⟩
  obtain⟨p,rfl⟩:=hvp
  go_enter Tryz.func151,Tryz.ntmps151
  go_wp2_with (go_at_call 42;refine(take_er h hm1).mono ?_;rintro e w1 ⟨rfl,hf1⟩)
  exact⟨rfl,rfl,hf1⟩
 have c1:=take_ok h hm1
 clear hm1 hm0
 cases hw:t.text==[119,104,105,108,101]
 ·simp only[hw,Bool.false_eq_true,if_false,if_true]at hm
  cases l with
  | none =>
   obtain rfl:v=.pointer none:=hl
   obtain⟨e,hm2,rfl⟩|⟨vt,ts2,hm2,hm⟩:=bind_some hm
   ·go_enter Tryz.func151,Tryz.ntmps151
    go_wp2_with (go_at_call 42;refine(c1).mono ?_;rintro e w1 ⟨rfl,a1,rfl,hps1,hf1⟩;clear c1;obtain⟨tc,tz,tset,tb⟩:=(Blk.new w1 #[.int .i64 t.kind,.int .i64 t.at',.string ⟨t.text.toArray⟩,.int .i64 t.int,.int .u64 t.bits] 82).rules;skip)
    go_region_dies
    all_goals (go_at_call 42;refine(take_er (hps1.fr ((Fr.refl [] _).alloc (tokB t)).drew) hm2).mono ?_;rintro e w2 ⟨rfl,hf2⟩)
    all_goals exact⟨rfl,rfl,((hf1.alloc (tokB t)).drew).trans hf2⟩
   go_enter Tryz.func151,Tryz.ntmps151
   go_wp2_with (go_at_call 42;refine(c1).mono ?_;rintro e w1 ⟨rfl,a1,rfl,hps1,hf1⟩;clear c1;obtain⟨tc,tz,tset,tb⟩:=(Blk.new w1 #[.int .i64 t.kind,.int .i64 t.at',.string ⟨t.text.toArray⟩,.int .i64 t.int,.int .u64 t.bits] 82).rules;skip)
   have hTB:Blk (w1.alloc (tokB t)).drew w1.heap.size #[.int .i64 t.kind,.int .i64 t.at',.string ⟨t.text.toArray⟩,.int .i64 t.int,.int .u64 t.bits] 82:=Blk.new w1 _ _
   have hw1:=hf1.size
   go_region_held2 (fun X=>X.cell? ⟨w1.heap.size,1,none⟩=some (.int .i64 t.at')) (first|go_keep|(rw[tc2];rfl)) (first|(go_at_call 42;refine(take_ok (hps1.fr ((Fr.refl [] _).alloc (tokB t)).drew) hm2).mono ?_;rintro e w2 ⟨rfl,a2,rfl,hps2,hf2⟩;clear hm2;obtain⟨tc2,tz2,tset2,tb2⟩:=(hTB.fr hf2 (by simp;omega)).rules)|(go_at_call 39;refine(node_any _ _ _ _ _ ⟨_,_,_,rfl⟩).mono ?_;rintro e w9 ⟨rfl,rfl⟩))
   obtain⟨c,hc⟩:∃c,Hid (c=w2.heap.size):=⟨_,rfl⟩
   obtain⟨W0,hW0⟩:∃X,X=w2.alloc (.cells (ncells ⟨11,t.at',0,vt.text,0,0⟩ 0 (.slice none 0 0)) 90):=⟨_,rfl⟩
   have hfX:Fr [S.bp] w w2:=((hf1.alloc (tokB t)).drew).trans hf2
   have hw2:=hfX.size
   have hG:=Gr.new w2 w.heap.size ⟨11,t.at',0,vt.text,0,0⟩ hw2
   have hps0:=hps2.fr ((Fr.refl [] _).alloc (.cells (ncells ⟨11,t.at',0,vt.text,0,0⟩ 0 (.slice none 0 0)) 90))
   have hf0:=hfX.alloc (.cells (ncells ⟨11,t.at',0,vt.text,0,0⟩ 0 (.slice none 0 0)) 90)
   rw[←hW0]at hG hps0 hf0
   simp only[ncells]at hW0
   rw[←hW0]
   rw[←hc.out]at hG ⊢
   clear hW0 hc hps1 hf1 hw1 tc tz tset tb hTB hps2 hf2 tc2 tz2 tset2 tb2 hfX hw2
   obtain⟨e,hm3,rfl⟩|⟨u3,ts3,hm3,hm⟩:=bind_some hm
   ·go_wp2_with (go_at_call 43;refine(must_er hps0 hm3).mono ?_;rintro e w3 ⟨rfl,hf3⟩)
    exact⟨rfl,rfl,hf0.trans hf3⟩
   have hbw:=hf0.size
   go_wp2_with (go_at_call 43;refine(must_ok hps0 hm3).mono ?_;rintro e w3 ⟨rfl,a3,rfl,hps3,hf3⟩;clear hm3)
   replace hG:=hG.fr hf3 (by simp;omega)
   replace hps0:=hps3
   replace hf0:=hf0.trans hf3
   clear hbw
   obtain⟨bs,hbs⟩:∃bs,Hid (bs=([]:List Nat)):=⟨_,rfl⟩
   obtain⟨vk,hvk⟩:∃vk:Value,Hid (vk=.slice none 0 0):=⟨_,rfl⟩
   rw[←hbs.out,←hvk.out]at hG
   clear hbs hvk
   obtain⟨ks,hks⟩:∃ks,Hid (ks=([]:List Tree)):=⟨_,rfl⟩
   have hkl:ks.length≤8:=by rw[hks.out];simp
   rw[←hks.out]at hG
   have hbw:=hf0.size
   obtain⟨kc,kz,kset,kb⟩:=hG.blk.rules
   simp only[ncells]at kc kset
   obtain⟨e,hm4,rfl⟩|⟨E,ts4,hm4,hm⟩:=bind_some hm
   ·go_region_dies
    all_goals (go_at_call 154;refine(ihe _ _ _ (hps0.fr (Fr.refl [] _).drew) hm4).mono ?_;rintro e w40 ⟨rfl,hf40⟩)
    all_goals exact⟨rfl,rfl,(hf0.drew).trans hf40⟩
   have HM:=Lib.hid hm
   clear hm
   go_cut [] (fun W=>Hid (∃bs vk a,ts4=S.ts a∧PS S a W∧Fr [S.bp] w W∧Gr W w.heap.size c ⟨11,t.at',0,vt.text,0,0⟩ bs [E] vk))
   case first =>
    go_region_law (first|(refine step_append_lies _ rfl _ _ 88 rfl (c+1) 55 i0 (.pointer none) 1 8 Tryz.underlying88 hi hz0 hz1 hz2 rfl (by decide) vk ks.length (ptrs bs) rfl (by exact ownsRow_fr hG40.row ((Fr.refl [] _).alloc _) (by simp)) ⟨w40.heap.size,0,none⟩ 1 1 [ptrV b40] rfl rfl (World.news_of_block (Blk.new _ _ _)) (by simp[Value.oneCell',ptrV]) (by omega) (by simp[maxLen];omega) (by omega) (by have:=hG40.blk.lt;simp;omega) _ rfl ?_;intro g' cap' w8 hown8 hg8 hat8 hlt8;obtain⟨qc,qz,qset,qb⟩:=((hG40.blk.alloc _).grown hg8 (fun e=>by have:=(hG40.row.lt _ e).1;omega)).rules;simp only[ncells]at qc qset)|(go_simp;go_at_call 154;refine(ihe _ _ _ (hps0.fr (Fr.refl [] _).drew) hm4).mono ?_;rintro e w40 ⟨b40,a40,rfl,rfl,hps40,hf40,hs40⟩;have hG40:=(hG.fr (Fr.refl [] _).drew (by simp)).fr hf40 (by simp;omega);obtain⟨rc40,rz40,rset40,rb40⟩:=hG40.blk.rules;simp only[ncells]at rc40 rset40;have hw40:=hf40.size))
    all_goals
     go_wp2
     go_meet
     case rel =>
      have hK:Kids w40 w3.heap.size [b40] [E]:=Kids.one (show Sp w40 w3.heap.size w40.heap.size b40 E from hs40) (Nat.le_refl _)
      obtain⟨q1,q2,q3⟩:=Gr.stepL h hG hf0 (show Fr [S.bp] w3 w40 from(Fr.refl _ _).drew.trans hf40) hps40 hK hown8 hg8 hat8
      rw[hks.out]at q1 q2 q3
      exact⟨_,_,a40,rfl,by simpa[ncells,hks.out]using q1,by simpa[ncells,hks.out]using q2,by simpa[ncells,hks.out]using q3⟩
   case rest =>
   clear hG hps0 hf0 hks hkl kc kz kset kb hbw hm4 hps3 hf3
   obtain⟨bs,vk,a,hts,hps0,hf0,hG⟩:=hcut.out
   clear hcut
   subst hts
   have hm:=HM.out
   clear HM
   obtain⟨e,hm5,rfl⟩|⟨u5,ts5,hm5,hm⟩:=bind_some hm
   ·go_wp2_with (go_at_call 43;refine(must_er hps0 hm5).mono ?_;rintro e w5 ⟨rfl,hf5⟩)
    exact⟨rfl,rfl,hf0.trans hf5⟩
   have hbw:=hf0.size
   go_wp2_with (go_at_call 43;refine(must_ok hps0 hm5).mono ?_;rintro e w5 ⟨rfl,a5,rfl,hps5,hf5⟩;clear hm5)
   replace hG:=hG.fr hf5 (by simp;omega)
   replace hps0:=hps5
   replace hf0:=hf0.trans hf5
   clear hbw
   obtain⟨ks,hks⟩:∃ks,Hid (ks=([E]:List Tree)):=⟨_,rfl⟩
   have hkl:ks.length≤8:=by rw[hks.out];simp
   rw[←hks.out]at hG
   have hbw:=hf0.size
   obtain⟨kc,kz,kset,kb⟩:=hG.blk.rules
   simp only[ncells]at kc kset
   obtain⟨e,hm6,rfl⟩|⟨G,ts6,hm6,hm⟩:=bind_some hm
   ·go_region_dies
    all_goals (go_at_call 154;refine(ihe _ _ _ (hps0.fr (Fr.refl [] _).drew) hm6).mono ?_;rintro e w40 ⟨rfl,hf40⟩)
    all_goals exact⟨rfl,rfl,(hf0.drew).trans hf40⟩
   obtain⟨e,hm7,rfl⟩|⟨B,ts7,hm7,hm⟩:=bind_some hm
   ·go_region_law (first|(refine step_append_lies _ rfl _ _ 88 rfl (c+1) 55 i0 (.pointer none) 1 8 Tryz.underlying88 hi hz0 hz1 hz2 rfl (by decide) vk ks.length (ptrs bs) rfl (by exact ownsRow_fr hG41.row ((Fr.refl [] _).alloc _) (by simp)) ⟨w41.heap.size,0,none⟩ 2 2 [ptrV b40,ptrV b41] rfl rfl (World.news_of_block (Blk.new _ _ _)) (by simp[Value.oneCell',ptrV]) (by omega) (by simp[maxLen];omega) (by omega) (by have:=hG41.blk.lt;simp;omega) _ rfl ?_;intro g' cap' w8 hown8 hg8 hat8 hlt8;obtain⟨qc,qz,qset,qb⟩:=((hG41.blk.alloc _).grown hg8 (fun e=>by have:=(hG41.row.lt _ e).1;omega)).rules;simp only[ncells]at qc qset)|(go_simp;go_at_call 154;refine(ihe _ _ _ (hps0.fr (Fr.refl [] _).drew) hm6).mono ?_;rintro e w40 ⟨b40,a40,rfl,rfl,hps40,hf40,hs40⟩;have hG40:=(hG.fr (Fr.refl [] _).drew (by simp)).fr hf40 (by simp;omega);obtain⟨rc40,rz40,rset40,rb40⟩:=hG40.blk.rules;simp only[ncells]at rc40 rset40;have hw40:=hf40.size)|(go_simp;go_at_call 73;refine(Calls.dead (ihb _ _ _ hps40 hm7) default []).mono ?_;rintro e w41 (⟨rfl,hf41⟩|⟨hF,b41,a41,rfl,hts,hps41,hf41,hs41⟩);exact⟨rfl,rfl,((hf0.drew).trans hf40).trans hf41⟩;have hG41:=hG40.fr hf41 (by simp;omega);obtain⟨rc41,rz41,rset41,rb41⟩:=hG41.blk.rules;simp only[ncells]at rc41 rset41;have hw41:=hf41.size))
    all_goals exact False.elim hF.out
   rw[pure_eq]at hm
   simp only[Option.some.injEq]at hm
   subst hm
   go_region_law (first|(refine step_append_lies _ rfl _ _ 88 rfl (c+1) 55 i0 (.pointer none) 1 8 Tryz.underlying88 hi hz0 hz1 hz2 rfl (by decide) vk ks.length (ptrs bs) rfl (by exact ownsRow_fr hG41.row ((Fr.refl [] _).alloc _) (by simp)) ⟨w41.heap.size,0,none⟩ 2 2 [ptrV b40,ptrV b41] rfl rfl (World.news_of_block (Blk.new _ _ _)) (by simp[Value.oneCell',ptrV]) (by omega) (by simp[maxLen];omega) (by omega) (by have:=hG41.blk.lt;simp;omega) _ rfl ?_;intro g' cap' w8 hown8 hg8 hat8 hlt8;obtain⟨qc,qz,qset,qb⟩:=((hG41.blk.alloc _).grown hg8 (fun e=>by have:=(hG41.row.lt _ e).1;omega)).rules;simp only[ncells]at qc qset)|(go_simp;go_at_call 154;refine(ihe _ _ _ (hps0.fr (Fr.refl [] _).drew) hm6).mono ?_;rintro e w40 ⟨b40,a40,rfl,rfl,hps40,hf40,hs40⟩;have hG40:=(hG.fr (Fr.refl [] _).drew (by simp)).fr hf40 (by simp;omega);obtain⟨rc40,rz40,rset40,rb40⟩:=hG40.blk.rules;simp only[ncells]at rc40 rset40;have hw40:=hf40.size)|(go_simp;go_at_call 73;refine(ihb _ _ _ hps40 hm7).mono ?_;rintro e w41 ⟨b41,a41,rfl,rfl,hps41,hf41,hs41⟩;have hG41:=hG40.fr hf41 (by simp;omega);obtain⟨rc41,rz41,rset41,rb41⟩:=hG41.blk.rules;simp only[ncells]at rc41 rset41;have hw41:=hf41.size))
   all_goals
    go_wp2
    go_ret
    have hK:Kids w41 w5.heap.size [b40,b41] [G,B]:=(Kids.one (show Sp w40 w5.heap.size w40.heap.size b40 G from hs40) (Nat.le_refl _)).snoc hf41 (by simp;omega) hs41
    obtain⟨q1,q2,q3⟩:=Gr.stepL h hG hf0 ((show Fr [S.bp] w5 w40 from(Fr.refl _ _).drew.trans hf40).trans hf41) hps41 hK hown8 hg8 hat8
    have hs:=q3.sp
    rw[hks.out]at q1 q2 hs
    exact⟨c,a41,rfl,rfl,by simpa[ncells,hks.out]using q1,by simpa[ncells,hks.out]using q2,by simpa[ncells,hks.out,leaf]using hs⟩
  | some l =>
   obtain⟨bt,rfl,hB,hbt⟩:=hl
   obtain⟨e,hm2,rfl⟩|⟨vt,ts2,hm2,hm⟩:=bind_some hm
   ·go_enter Tryz.func151,Tryz.ntmps151
    go_wp2_with (go_at_call 42;refine(c1).mono ?_;rintro e w1 ⟨rfl,a1,rfl,hps1,hf1⟩;clear c1;obtain⟨tc,tz,tset,tb⟩:=(Blk.new w1 #[.int .i64 t.kind,.int .i64 t.at',.string ⟨t.text.toArray⟩,.int .i64 t.int,.int .u64 t.bits] 82).rules;have hB1:=hB.fr hf1 (by simpa using hbt);obtain⟨lc,lz,lset,lb⟩:=hB1.rules;have lb':∀k,bt<w1.heap.size+k:=(fun k=>by omega))
    go_region_dies
    all_goals (go_at_call 42;refine(take_er (hps1.fr ((Fr.refl [] _).alloc (tokB t)).drew) hm2).mono ?_;rintro e w2 ⟨rfl,hf2⟩)
    all_goals exact⟨rfl,rfl,((hf1.alloc (tokB t)).drew).trans hf2⟩
   go_enter Tryz.func151,Tryz.ntmps151
   go_wp2_with (go_at_call 42;refine(c1).mono ?_;rintro e w1 ⟨rfl,a1,rfl,hps1,hf1⟩;clear c1;obtain⟨tc,tz,tset,tb⟩:=(Blk.new w1 #[.int .i64 t.kind,.int .i64 t.at',.string ⟨t.text.toArray⟩,.int .i64 t.int,.int .u64 t.bits] 82).rules;have hB1:=hB.fr hf1 (by simpa using hbt);obtain⟨lc,lz,lset,lb⟩:=hB1.rules;have lb':∀k,bt<w1.heap.size+k:=(fun k=>by omega))
   have hTB:Blk (w1.alloc (tokB t)).drew w1.heap.size #[.int .i64 t.kind,.int .i64 t.at',.string ⟨t.text.toArray⟩,.int .i64 t.int,.int .u64 t.bits] 82:=Blk.new w1 _ _
   have hw1:=hf1.size
   go_region_held2 (fun X=>X.cell? ⟨w1.heap.size,1,none⟩=some (.int .i64 t.at')) (first|go_keep|(rw[tc2];rfl)) (first|(go_at_call 42;refine(take_ok (hps1.fr ((Fr.refl [] _).alloc (tokB t)).drew) hm2).mono ?_;rintro e w2 ⟨rfl,a2,rfl,hps2,hf2⟩;clear hm2;obtain⟨tc2,tz2,tset2,tb2⟩:=(hTB.fr hf2 (by simp;omega)).rules)|(go_at_call 39;refine(node_any _ _ _ _ _ ⟨_,_,_,rfl⟩).mono ?_;rintro e w9 ⟨rfl,rfl⟩))
   obtain⟨c,hc⟩:∃c,Hid (c=w2.heap.size):=⟨_,rfl⟩
   obtain⟨W0,hW0⟩:∃X,X=w2.alloc (.cells (ncells ⟨11,t.at',0,vt.text,0,0⟩ 0 (.slice none 0 0)) 90):=⟨_,rfl⟩
   have hfX:Fr [S.bp] w w2:=((hf1.alloc (tokB t)).drew).trans hf2
   have hw2:=hfX.size
   have hG:=Gr.new w2 w.heap.size ⟨11,t.at',0,vt.text,0,0⟩ hw2
   have hps0:=hps2.fr ((Fr.refl [] _).alloc (.cells (ncells ⟨11,t.at',0,vt.text,0,0⟩ 0 (.slice none 0 0)) 90))
   have hf0:=hfX.alloc (.cells (ncells ⟨11,t.at',0,vt.text,0,0⟩ 0 (.slice none 0 0)) 90)
   have hB2:=((show Blk (w1.alloc (tokB t)).drew bt _ _ from hB1.alloc (tokB t)).fr hf2 (by simpa using hbt)).alloc (.cells (ncells ⟨11,t.at',0,vt.text,0,0⟩ 0 (.slice none 0 0)) 90)
   rw[←hW0]at hG hps0 hf0 hB2
   simp only[ncells]at hW0
   rw[←hW0]
   rw[←hc.out]at hG ⊢
   clear hW0 hc hps1 hf1 hw1 tc tz tset tb hTB hps2 hf2 tc2 tz2 tset2 tb2 hfX hw2 hB hB1 lc lz lset lb lb'
   obtain⟨lc,lz,lset,lb⟩:=hB2.rules
   have HM:=Lib.hid hm
   clear hm
   obtain⟨bs,hbs⟩:∃bs,Hid (bs=([]:List Nat)):=⟨_,rfl⟩
   obtain⟨vk,hvk⟩:∃vk:Value,Hid (vk=.slice none 0 0):=⟨_,rfl⟩
   rw[←hbs.out,←hvk.out]at hG
   clear hbs hvk
   obtain⟨ks,hks⟩:∃ks,Hid (ks=([]:List Tree)):=⟨_,rfl⟩
   have hkl:ks.length≤8:=by rw[hks.out];simp
   rw[←hks.out]at hG
   have hbw:=hf0.size
   obtain⟨kc,kz,kset,kb⟩:=hG.blk.rules
   simp only[ncells]at kc kset
   go_wp2
   go_cut [] (fun W=>Hid (∃bs vk,PS S a2 W∧Fr [S.bp] w W∧Gr W w.heap.size c ⟨11,t.at',0,vt.text,0,0⟩ bs [(leaf 12 l.at' l.text [])] vk))
   case first =>
    have hs40:Sp (W0.drew.alloc (.cells #[.int .i64 12,.int .i64 l.at',.int .i64 0,.string ⟨l.text.toArray⟩,.int .i64 0,.int .u64 0,.slice none 0 0] 90)) W0.heap.size (W0.heap.size+1) W0.heap.size (leaf 12 l.at' l.text []):=by simpa[ncells,leaf]using leaf_sp (W:=W0.drew) (lo:=W0.heap.size) ⟨12,l.at',0,l.text,0,0⟩ (Nat.le_refl _)
    have hf40:Fr [] W0 (W0.drew.alloc (.cells #[.int .i64 12,.int .i64 l.at',.int .i64 0,.string ⟨l.text.toArray⟩,.int .i64 0,.int .u64 0,.slice none 0 0] 90)):=(Fr.refl [] W0).drew.alloc _
    have hG40:=hG.fr hf40 (by simp)
    have hps40:=hps0.fr hf40
    have hz40:(W0.drew.alloc (.cells #[.int .i64 12,.int .i64 l.at',.int .i64 0,.string ⟨l.text.toArray⟩,.int .i64 0,.int .u64 0,.slice none 0 0] 90)).heap.size=W0.heap.size+1:=by simp
    obtain⟨W4,hW4⟩:∃X,X=W0.drew.alloc (.cells #[.int .i64 12,.int .i64 l.at',.int .i64 0,.string ⟨l.text.toArray⟩,.int .i64 0,.int .u64 0,.slice none 0 0] 90):=⟨_,rfl⟩
    rw[←hW4]at hs40 hf40 hG40 hps40 hz40
    have HZ:=Lib.hid hz40
    clear hz40
    have cn:Calls Tryz.prog 39 #[.int .i64 12,.int .i64 l.at',.string ⟨l.text.toArray⟩,.slice none 0 0] W0.drew fun e w'=>e=.returned (.pointer (some ⟨W0.heap.size,0,none⟩))∧W4=w':=(node_any 12 l.at' l.text _ _ ⟨_,_,_,rfl⟩).mono (fun e w' hh=>⟨by simpa using hh.1,by rw[hW4];exact hh.2.symm⟩)
    clear hW4
    obtain⟨rc,rz,rset,rb⟩:=hG40.blk.rules
    simp only[ncells]at rc rset
    go_region_law (first|(refine step_append_lies _ rfl _ _ 88 rfl (c+1) 55 i0 (.pointer none) 1 8 Tryz.underlying88 hi hz0 hz1 hz2 rfl (by decide) vk ks.length (ptrs bs) rfl (by exact ownsRow_fr hG40.row ((Fr.refl [] _).alloc _) (by simp)) ⟨W4.heap.size,0,none⟩ 1 1 [ptrV W0.heap.size] rfl rfl (World.news_of_block (Blk.new _ _ _)) (by simp[Value.oneCell',ptrV]) (by omega) (by simp[maxLen];omega) (by omega) (by have:=hG40.blk.lt;simp;omega) _ rfl ?_;intro g' cap' w8 hown8 hg8 hat8 hlt8;obtain⟨qc,qz,qset,qb⟩:=((hG40.blk.alloc _).grown hg8 (fun e=>by have:=(hG40.row.lt _ e).1;omega)).rules;simp only[ncells]at qc qset)|(go_simp;go_at_call 39;refine cn.mono ?_;rintro e w9 ⟨rfl,rfl⟩))
    all_goals
     go_wp2
     go_meet
     case rel =>
      have hK:Kids W4 W0.heap.size [W0.heap.size] [(leaf 12 l.at' l.text [])]:=Kids.one hs40 (by have:=HZ.out;omega)
      obtain⟨q1,q2,q3⟩:=Gr.stepL h hG hf0 hf40.nil hps40 hK hown8 hg8 hat8
      rw[hks.out]at q1 q2 q3
      exact⟨_,_,by simpa[ncells,hks.out]using q1,by simpa[ncells,hks.out]using q2,by simpa[ncells,hks.out]using q3⟩
   case rest =>
   clear hG hps0 hf0 hks hkl kc kz kset kb hbw hB2 lc lz lset lb
   obtain⟨bs,vk,hps0,hf0,hG⟩:=hcut.out
   clear hcut
   have hm:=HM.out
   clear HM
   obtain⟨e,hm3,rfl⟩|⟨u3,ts3,hm3,hm⟩:=bind_some hm
   ·go_wp2_with (go_at_call 43;refine(must_er hps0 hm3).mono ?_;rintro e w3 ⟨rfl,hf3⟩)
    exact⟨rfl,rfl,hf0.trans hf3⟩
   have hbw:=hf0.size
   go_wp2_with (go_at_call 43;refine(must_ok hps0 hm3).mono ?_;rintro e w3 ⟨rfl,a3,rfl,hps3,hf3⟩;clear hm3)
   replace hG:=hG.fr hf3 (by simp;omega)
   replace hps0:=hps3
   replace hf0:=hf0.trans hf3
   clear hbw
   obtain⟨ks,hks⟩:∃ks,Hid (ks=([(leaf 12 l.at' l.text [])]:List Tree)):=⟨_,rfl⟩
   have hkl:ks.length≤8:=by rw[hks.out];simp
   rw[←hks.out]at hG
   have hbw:=hf0.size
   obtain⟨kc,kz,kset,kb⟩:=hG.blk.rules
   simp only[ncells]at kc kset
   obtain⟨e,hm4,rfl⟩|⟨E,ts4,hm4,hm⟩:=bind_some hm
   ·go_region_dies
    all_goals (go_at_call 154;refine(ihe _ _ _ (hps0.fr (Fr.refl [] _).drew) hm4).mono ?_;rintro e w40 ⟨rfl,hf40⟩)
    all_goals exact⟨rfl,rfl,(hf0.drew).trans hf40⟩
   have HM:=Lib.hid hm
   clear hm
   go_cut [] (fun W=>Hid (∃bs vk a,ts4=S.ts a∧PS S a W∧Fr [S.bp] w W∧Gr W w.heap.size c ⟨11,t.at',0,vt.text,0,0⟩ bs [(leaf 12 l.at' l.text []),E] vk))
   case first =>
    go_region_law (first|(refine step_append_lies _ rfl _ _ 88 rfl (c+1) 55 i0 (.pointer none) 1 8 Tryz.underlying88 hi hz0 hz1 hz2 rfl (by decide) vk ks.length (ptrs bs) rfl (by exact ownsRow_fr hG40.row ((Fr.refl [] _).alloc _) (by simp)) ⟨w40.heap.size,0,none⟩ 1 1 [ptrV b40] rfl rfl (World.news_of_block (Blk.new _ _ _)) (by simp[Value.oneCell',ptrV]) (by omega) (by simp[maxLen];omega) (by omega) (by have:=hG40.blk.lt;simp;omega) _ rfl ?_;intro g' cap' w8 hown8 hg8 hat8 hlt8;obtain⟨qc,qz,qset,qb⟩:=((hG40.blk.alloc _).grown hg8 (fun e=>by have:=(hG40.row.lt _ e).1;omega)).rules;simp only[ncells]at qc qset)|(go_simp;go_at_call 154;refine(ihe _ _ _ (hps0.fr (Fr.refl [] _).drew) hm4).mono ?_;rintro e w40 ⟨b40,a40,rfl,rfl,hps40,hf40,hs40⟩;have hG40:=(hG.fr (Fr.refl [] _).drew (by simp)).fr hf40 (by simp;omega);obtain⟨rc40,rz40,rset40,rb40⟩:=hG40.blk.rules;simp only[ncells]at rc40 rset40;have hw40:=hf40.size))
    all_goals
     go_wp2
     go_meet
     case rel =>
      have hK:Kids w40 w3.heap.size [b40] [E]:=Kids.one (show Sp w40 w3.heap.size w40.heap.size b40 E from hs40) (Nat.le_refl _)
      obtain⟨q1,q2,q3⟩:=Gr.stepL h hG hf0 (show Fr [S.bp] w3 w40 from(Fr.refl _ _).drew.trans hf40) hps40 hK hown8 hg8 hat8
      rw[hks.out]at q1 q2 q3
      exact⟨_,_,a40,rfl,by simpa[ncells,hks.out]using q1,by simpa[ncells,hks.out]using q2,by simpa[ncells,hks.out]using q3⟩
   case rest =>
   clear hG hps0 hf0 hks hkl kc kz kset kb hbw hm4 hps3 hf3
   obtain⟨bs,vk,a,hts,hps0,hf0,hG⟩:=hcut.out
   clear hcut
   subst hts
   have hm:=HM.out
   clear HM
   obtain⟨e,hm5,rfl⟩|⟨u5,ts5,hm5,hm⟩:=bind_some hm
   ·go_wp2_with (go_at_call 43;refine(must_er hps0 hm5).mono ?_;rintro e w5 ⟨rfl,hf5⟩)
    exact⟨rfl,rfl,hf0.trans hf5⟩
   have hbw:=hf0.size
   go_wp2_with (go_at_call 43;refine(must_ok hps0 hm5).mono ?_;rintro e w5 ⟨rfl,a5,rfl,hps5,hf5⟩;clear hm5)
   replace hG:=hG.fr hf5 (by simp;omega)
   replace hps0:=hps5
   replace hf0:=hf0.trans hf5
   clear hbw
   obtain⟨ks,hks⟩:∃ks,Hid (ks=([(leaf 12 l.at' l.text []),E]:List Tree)):=⟨_,rfl⟩
   have hkl:ks.length≤8:=by rw[hks.out];simp
   rw[←hks.out]at hG
   have hbw:=hf0.size
   obtain⟨kc,kz,kset,kb⟩:=hG.blk.rules
   simp only[ncells]at kc kset
   obtain⟨e,hm6,rfl⟩|⟨G,ts6,hm6,hm⟩:=bind_some hm
   ·go_region_dies
    all_goals (go_at_call 154;refine(ihe _ _ _ (hps0.fr (Fr.refl [] _).drew) hm6).mono ?_;rintro e w40 ⟨rfl,hf40⟩)
    all_goals exact⟨rfl,rfl,(hf0.drew).trans hf40⟩
   obtain⟨e,hm7,rfl⟩|⟨B,ts7,hm7,hm⟩:=bind_some hm
   ·go_region_law (first|(refine step_append_lies _ rfl _ _ 88 rfl (c+1) 55 i0 (.pointer none) 1 8 Tryz.underlying88 hi hz0 hz1 hz2 rfl (by decide) vk ks.length (ptrs bs) rfl (by exact ownsRow_fr hG41.row ((Fr.refl [] _).alloc _) (by simp)) ⟨w41.heap.size,0,none⟩ 2 2 [ptrV b40,ptrV b41] rfl rfl (World.news_of_block (Blk.new _ _ _)) (by simp[Value.oneCell',ptrV]) (by omega) (by simp[maxLen];omega) (by omega) (by have:=hG41.blk.lt;simp;omega) _ rfl ?_;intro g' cap' w8 hown8 hg8 hat8 hlt8;obtain⟨qc,qz,qset,qb⟩:=((hG41.blk.alloc _).grown hg8 (fun e=>by have:=(hG41.row.lt _ e).1;omega)).rules;simp only[ncells]at qc qset)|(go_simp;go_at_call 154;refine(ihe _ _ _ (hps0.fr (Fr.refl [] _).drew) hm6).mono ?_;rintro e w40 ⟨b40,a40,rfl,rfl,hps40,hf40,hs40⟩;have hG40:=(hG.fr (Fr.refl [] _).drew (by simp)).fr hf40 (by simp;omega);obtain⟨rc40,rz40,rset40,rb40⟩:=hG40.blk.rules;simp only[ncells]at rc40 rset40;have hw40:=hf40.size)|(go_simp;go_at_call 73;refine(Calls.dead (ihb _ _ _ hps40 hm7) default []).mono ?_;rintro e w41 (⟨rfl,hf41⟩|⟨hF,b41,a41,rfl,hts,hps41,hf41,hs41⟩);exact⟨rfl,rfl,((hf0.drew).trans hf40).trans hf41⟩;have hG41:=hG40.fr hf41 (by simp;omega);obtain⟨rc41,rz41,rset41,rb41⟩:=hG41.blk.rules;simp only[ncells]at rc41 rset41;have hw41:=hf41.size))
    all_goals exact False.elim hF.out
   rw[pure_eq]at hm
   simp only[Option.some.injEq]at hm
   subst hm
   go_region_law (first|(refine step_append_lies _ rfl _ _ 88 rfl (c+1) 55 i0 (.pointer none) 1 8 Tryz.underlying88 hi hz0 hz1 hz2 rfl (by decide) vk ks.length (ptrs bs) rfl (by exact ownsRow_fr hG41.row ((Fr.refl [] _).alloc _) (by simp)) ⟨w41.heap.size,0,none⟩ 2 2 [ptrV b40,ptrV b41] rfl rfl (World.news_of_block (Blk.new _ _ _)) (by simp[Value.oneCell',ptrV]) (by omega) (by simp[maxLen];omega) (by omega) (by have:=hG41.blk.lt;simp;omega) _ rfl ?_;intro g' cap' w8 hown8 hg8 hat8 hlt8;obtain⟨qc,qz,qset,qb⟩:=((hG41.blk.alloc _).grown hg8 (fun e=>by have:=(hG41.row.lt _ e).1;omega)).rules;simp only[ncells]at qc qset)|(go_simp;go_at_call 154;refine(ihe _ _ _ (hps0.fr (Fr.refl [] _).drew) hm6).mono ?_;rintro e w40 ⟨b40,a40,rfl,rfl,hps40,hf40,hs40⟩;have hG40:=(hG.fr (Fr.refl [] _).drew (by simp)).fr hf40 (by simp;omega);obtain⟨rc40,rz40,rset40,rb40⟩:=hG40.blk.rules;simp only[ncells]at rc40 rset40;have hw40:=hf40.size)|(go_simp;go_at_call 73;refine(ihb _ _ _ hps40 hm7).mono ?_;rintro e w41 ⟨b41,a41,rfl,rfl,hps41,hf41,hs41⟩;have hG41:=hG40.fr hf41 (by simp;omega);obtain⟨rc41,rz41,rset41,rb41⟩:=hG41.blk.rules;simp only[ncells]at rc41 rset41;have hw41:=hf41.size))
   all_goals
    go_wp2
    go_ret
    have hK:Kids w41 w5.heap.size [b40,b41] [G,B]:=(Kids.one (show Sp w40 w5.heap.size w40.heap.size b40 G from hs40) (Nat.le_refl _)).snoc hf41 (by simp;omega) hs41
    obtain⟨q1,q2,q3⟩:=Gr.stepL h hG hf0 ((show Fr [S.bp] w5 w40 from(Fr.refl _ _).drew.trans hf40).trans hf41) hps41 hK hown8 hg8 hat8
    have hs:=q3.sp
    rw[hks.out]at q1 q2 hs
    exact⟨c,a41,rfl,rfl,by simpa[ncells,hks.out]using q1,by simpa[ncells,hks.out]using q2,by simpa[ncells,hks.out,leaf]using hs⟩
 ·simp only[hw,Bool.false_eq_true,if_false,if_true]at hm
  cases l with
  | none =>
   obtain rfl:v=.pointer none:=hl
   go_enter Tryz.func151,Tryz.ntmps151
   go_wp2_with (first|(go_at_call 42;refine(c1).mono ?_;rintro e w1 ⟨rfl,a1,rfl,hps1,hf1⟩;clear c1;obtain⟨tc,tz,tset,tb⟩:=(Blk.new w1 #[.int .i64 t.kind,.int .i64 t.at',.string ⟨t.text.toArray⟩,.int .i64 t.int,.int .u64 t.bits] 82).rules;skip)|(go_at_call 39;refine(node_any _ _ _ _ _ ⟨_,_,_,rfl⟩).mono ?_;rintro e w9 ⟨rfl,rfl⟩))
   obtain⟨c,hc⟩:∃c,Hid (c=(w1.alloc (tokB t)).heap.size):=⟨_,rfl⟩
   obtain⟨W0,hW0⟩:∃X,X=(w1.alloc (tokB t)).alloc (.cells (ncells ⟨10,t.at',0,[],0,0⟩ 0 (.slice none 0 0)) 90):=⟨_,rfl⟩
   have hw1:=hf1.size
   have hG:=Gr.new (w1.alloc (tokB t)) w.heap.size ⟨10,t.at',0,[],0,0⟩ (by simp;omega)
   have hps0:=(hps1.fr ((Fr.refl [] _).alloc (tokB t))).fr ((Fr.refl [] _).alloc (.cells (ncells ⟨10,t.at',0,[],0,0⟩ 0 (.slice none 0 0)) 90))
   have hf0:=(hf1.alloc (tokB t)).alloc (.cells (ncells ⟨10,t.at',0,[],0,0⟩ 0 (.slice none 0 0)) 90)
   rw[←hW0]at hG hps0 hf0
   simp only[ncells,tokB]at hW0
   rw[←hW0]
   rw[←hc.out]at hG
   have hc':=hc.out
   simp only[World.size_alloc]at hc'
   rw[←hc']
   clear hc' hW0 hc hps1 hf1 hw1 tc tz tset tb
   obtain⟨bs,hbs⟩:∃bs,Hid (bs=([]:List Nat)):=⟨_,rfl⟩
   obtain⟨vk,hvk⟩:∃vk:Value,Hid (vk=.slice none 0 0):=⟨_,rfl⟩
   rw[←hbs.out,←hvk.out]at hG
   clear hbs hvk
   obtain⟨ks,hks⟩:∃ks,Hid (ks=([]:List Tree)):=⟨_,rfl⟩
   have hkl:ks.length≤8:=by rw[hks.out];simp
   rw[←hks.out]at hG
   have hbw:=hf0.size
   obtain⟨kc,kz,kset,kb⟩:=hG.blk.rules
   simp only[ncells]at kc kset
   obtain⟨e,hm2,rfl⟩|⟨E,ts2,hm2,hm⟩:=bind_some hm
   ·go_region_dies
    all_goals (go_at_call 154;refine(ihe _ _ _ (hps0.fr (Fr.refl [] _).drew) hm2).mono ?_;rintro e w40 ⟨rfl,hf40⟩)
    all_goals exact⟨rfl,rfl,(hf0.drew).trans hf40⟩
   obtain⟨e,hm3,rfl⟩|⟨B,ts3,hm3,hm⟩:=bind_some hm
   ·go_region_law (first|(refine step_append_lies _ rfl _ _ 88 rfl (c+1) 55 i0 (.pointer none) 1 8 Tryz.underlying88 hi hz0 hz1 hz2 rfl (by decide) vk ks.length (ptrs bs) rfl (by exact ownsRow_fr hG41.row ((Fr.refl [] _).alloc _) (by simp)) ⟨w41.heap.size,0,none⟩ 2 2 [ptrV b40,ptrV b41] rfl rfl (World.news_of_block (Blk.new _ _ _)) (by simp[Value.oneCell',ptrV]) (by omega) (by simp[maxLen];omega) (by omega) (by have:=hG41.blk.lt;simp;omega) _ rfl ?_;intro g' cap' w8 hown8 hg8 hat8 hlt8;obtain⟨qc,qz,qset,qb⟩:=((hG41.blk.alloc _).grown hg8 (fun e=>by have:=(hG41.row.lt _ e).1;omega)).rules;simp only[ncells]at qc qset)|(go_simp;go_at_call 154;refine(ihe _ _ _ (hps0.fr (Fr.refl [] _).drew) hm2).mono ?_;rintro e w40 ⟨b40,a40,rfl,rfl,hps40,hf40,hs40⟩;have hG40:=(hG.fr (Fr.refl [] _).drew (by simp)).fr hf40 (by simp;omega);obtain⟨rc40,rz40,rset40,rb40⟩:=hG40.blk.rules;simp only[ncells]at rc40 rset40;have hw40:=hf40.size)|(go_simp;go_at_call 73;refine(Calls.dead (ihb _ _ _ hps40 hm3) default []).mono ?_;rintro e w41 (⟨rfl,hf41⟩|⟨hF,b41,a41,rfl,hts,hps41,hf41,hs41⟩);exact⟨rfl,rfl,((hf0.drew).trans hf40).trans hf41⟩;have hG41:=hG40.fr hf41 (by simp;omega);obtain⟨rc41,rz41,rset41,rb41⟩:=hG41.blk.rules;simp only[ncells]at rc41 rset41;have hw41:=hf41.size))
    all_goals exact False.elim hF.out
   rw[pure_eq]at hm
   simp only[Option.some.injEq]at hm
   subst hm
   go_region_law (first|(refine step_append_lies _ rfl _ _ 88 rfl (c+1) 55 i0 (.pointer none) 1 8 Tryz.underlying88 hi hz0 hz1 hz2 rfl (by decide) vk ks.length (ptrs bs) rfl (by exact ownsRow_fr hG41.row ((Fr.refl [] _).alloc _) (by simp)) ⟨w41.heap.size,0,none⟩ 2 2 [ptrV b40,ptrV b41] rfl rfl (World.news_of_block (Blk.new _ _ _)) (by simp[Value.oneCell',ptrV]) (by omega) (by simp[maxLen];omega) (by omega) (by have:=hG41.blk.lt;simp;omega) _ rfl ?_;intro g' cap' w8 hown8 hg8 hat8 hlt8;obtain⟨qc,qz,qset,qb⟩:=((hG41.blk.alloc _).grown hg8 (fun e=>by have:=(hG41.row.lt _ e).1;omega)).rules;simp only[ncells]at qc qset)|(go_simp;go_at_call 154;refine(ihe _ _ _ (hps0.fr (Fr.refl [] _).drew) hm2).mono ?_;rintro e w40 ⟨b40,a40,rfl,rfl,hps40,hf40,hs40⟩;have hG40:=(hG.fr (Fr.refl [] _).drew (by simp)).fr hf40 (by simp;omega);obtain⟨rc40,rz40,rset40,rb40⟩:=hG40.blk.rules;simp only[ncells]at rc40 rset40;have hw40:=hf40.size)|(go_simp;go_at_call 73;refine(ihb _ _ _ hps40 hm3).mono ?_;rintro e w41 ⟨b41,a41,rfl,rfl,hps41,hf41,hs41⟩;have hG41:=hG40.fr hf41 (by simp;omega);obtain⟨rc41,rz41,rset41,rb41⟩:=hG41.blk.rules;simp only[ncells]at rc41 rset41;have hw41:=hf41.size))
   all_goals
    go_wp2
    go_ret
    have hK:Kids w41 W0.heap.size [b40,b41] [E,B]:=(Kids.one (show Sp w40 W0.heap.size w40.heap.size b40 E from hs40) (Nat.le_refl _)).snoc hf41 (by simp;omega) hs41
    obtain⟨q1,q2,q3⟩:=Gr.stepL h hG hf0 ((show Fr [S.bp] W0 w40 from(Fr.refl _ _).drew.trans hf40).trans hf41) hps41 hK hown8 hg8 hat8
    have hs:=q3.sp
    rw[hks.out]at q1 q2 hs
    exact⟨c,a41,rfl,rfl,by simpa[ncells,hks.out]using q1,by simpa[ncells,hks.out]using q2,by simpa[ncells,hks.out,leaf]using hs⟩
  | some l =>
   obtain⟨bt,rfl,hB,hbt⟩:=hl
   go_enter Tryz.func151,Tryz.ntmps151
   go_wp2_with (first|(go_at_call 42;refine(c1).mono ?_;rintro e w1 ⟨rfl,a1,rfl,hps1,hf1⟩;clear c1;obtain⟨tc,tz,tset,tb⟩:=(Blk.new w1 #[.int .i64 t.kind,.int .i64 t.at',.string ⟨t.text.toArray⟩,.int .i64 t.int,.int .u64 t.bits] 82).rules;have hB1:=hB.fr hf1 (by simpa using hbt);obtain⟨lc,lz,lset,lb⟩:=hB1.rules;have lb':∀k,bt<w1.heap.size+k:=(fun k=>by omega))|(go_at_call 39;refine(node_any _ _ _ _ _ ⟨_,_,_,rfl⟩).mono ?_;rintro e w9 ⟨rfl,rfl⟩))
   obtain⟨c,hc⟩:∃c,Hid (c=(w1.alloc (tokB t)).heap.size):=⟨_,rfl⟩
   obtain⟨W0,hW0⟩:∃X,X=(w1.alloc (tokB t)).alloc (.cells (ncells ⟨10,t.at',0,l.text,0,0⟩ 0 (.slice none 0 0)) 90):=⟨_,rfl⟩
   have hw1:=hf1.size
   have hG:=Gr.new (w1.alloc (tokB t)) w.heap.size ⟨10,t.at',0,l.text,0,0⟩ (by simp;omega)
   have hps0:=(hps1.fr ((Fr.refl [] _).alloc (tokB t))).fr ((Fr.refl [] _).alloc (.cells (ncells ⟨10,t.at',0,l.text,0,0⟩ 0 (.slice none 0 0)) 90))
   have hf0:=(hf1.alloc (tokB t)).alloc (.cells (ncells ⟨10,t.at',0,l.text,0,0⟩ 0 (.slice none 0 0)) 90)
   rw[←hW0]at hG hps0 hf0
   simp only[ncells,tokB]at hW0
   rw[←hW0]
   rw[←hc.out]at hG
   have hc':=hc.out
   simp only[World.size_alloc]at hc'
   rw[←hc']
   clear hc' hW0 hc hps1 hf1 hw1 tc tz tset tb hB hB1 lc lz lset lb lb'
   obtain⟨bs,hbs⟩:∃bs,Hid (bs=([]:List Nat)):=⟨_,rfl⟩
   obtain⟨vk,hvk⟩:∃vk:Value,Hid (vk=.slice none 0 0):=⟨_,rfl⟩
   rw[←hbs.out,←hvk.out]at hG
   clear hbs hvk
   obtain⟨ks,hks⟩:∃ks,Hid (ks=([]:List Tree)):=⟨_,rfl⟩
   have hkl:ks.length≤8:=by rw[hks.out];simp
   rw[←hks.out]at hG
   have hbw:=hf0.size
   obtain⟨kc,kz,kset,kb⟩:=hG.blk.rules
   simp only[ncells]at kc kset
   obtain⟨e,hm2,rfl⟩|⟨E,ts2,hm2,hm⟩:=bind_some hm
   ·go_region_dies
    all_goals (go_at_call 154;refine(ihe _ _ _ (hps0.fr (Fr.refl [] _).drew) hm2).mono ?_;rintro e w40 ⟨rfl,hf40⟩)
    all_goals exact⟨rfl,rfl,(hf0.drew).trans hf40⟩
   obtain⟨e,hm3,rfl⟩|⟨B,ts3,hm3,hm⟩:=bind_some hm
   ·go_region_law (first|(refine step_append_lies _ rfl _ _ 88 rfl (c+1) 55 i0 (.pointer none) 1 8 Tryz.underlying88 hi hz0 hz1 hz2 rfl (by decide) vk ks.length (ptrs bs) rfl (by exact ownsRow_fr hG41.row ((Fr.refl [] _).alloc _) (by simp)) ⟨w41.heap.size,0,none⟩ 2 2 [ptrV b40,ptrV b41] rfl rfl (World.news_of_block (Blk.new _ _ _)) (by simp[Value.oneCell',ptrV]) (by omega) (by simp[maxLen];omega) (by omega) (by have:=hG41.blk.lt;simp;omega) _ rfl ?_;intro g' cap' w8 hown8 hg8 hat8 hlt8;obtain⟨qc,qz,qset,qb⟩:=((hG41.blk.alloc _).grown hg8 (fun e=>by have:=(hG41.row.lt _ e).1;omega)).rules;simp only[ncells]at qc qset)|(go_simp;go_at_call 154;refine(ihe _ _ _ (hps0.fr (Fr.refl [] _).drew) hm2).mono ?_;rintro e w40 ⟨b40,a40,rfl,rfl,hps40,hf40,hs40⟩;have hG40:=(hG.fr (Fr.refl [] _).drew (by simp)).fr hf40 (by simp;omega);obtain⟨rc40,rz40,rset40,rb40⟩:=hG40.blk.rules;simp only[ncells]at rc40 rset40;have hw40:=hf40.size)|(go_simp;go_at_call 73;refine(Calls.dead (ihb _ _ _ hps40 hm3) default []).mono ?_;rintro e w41 (⟨rfl,hf41⟩|⟨hF,b41,a41,rfl,hts,hps41,hf41,hs41⟩);exact⟨rfl,rfl,((hf0.drew).trans hf40).trans hf41⟩;have hG41:=hG40.fr hf41 (by simp;omega);obtain⟨rc41,rz41,rset41,rb41⟩:=hG41.blk.rules;simp only[ncells]at rc41 rset41;have hw41:=hf41.size))
    all_goals exact False.elim hF.out
   rw[pure_eq]at hm
   simp only[Option.some.injEq]at hm
   subst hm
   go_region_law (first|(refine step_append_lies _ rfl _ _ 88 rfl (c+1) 55 i0 (.pointer none) 1 8 Tryz.underlying88 hi hz0 hz1 hz2 rfl (by decide) vk ks.length (ptrs bs) rfl (by exact ownsRow_fr hG41.row ((Fr.refl [] _).alloc _) (by simp)) ⟨w41.heap.size,0,none⟩ 2 2 [ptrV b40,ptrV b41] rfl rfl (World.news_of_block (Blk.new _ _ _)) (by simp[Value.oneCell',ptrV]) (by omega) (by simp[maxLen];omega) (by omega) (by have:=hG41.blk.lt;simp;omega) _ rfl ?_;intro g' cap' w8 hown8 hg8 hat8 hlt8;obtain⟨qc,qz,qset,qb⟩:=((hG41.blk.alloc _).grown hg8 (fun e=>by have:=(hG41.row.lt _ e).1;omega)).rules;simp only[ncells]at qc qset)|(go_simp;go_at_call 154;refine(ihe _ _ _ (hps0.fr (Fr.refl [] _).drew) hm2).mono ?_;rintro e w40 ⟨b40,a40,rfl,rfl,hps40,hf40,hs40⟩;have hG40:=(hG.fr (Fr.refl [] _).drew (by simp)).fr hf40 (by simp;omega);obtain⟨rc40,rz40,rset40,rb40⟩:=hG40.blk.rules;simp only[ncells]at rc40 rset40;have hw40:=hf40.size)|(go_simp;go_at_call 73;refine(ihb _ _ _ hps40 hm3).mono ?_;rintro e w41 ⟨b41,a41,rfl,rfl,hps41,hf41,hs41⟩;have hG41:=hG40.fr hf41 (by simp;omega);obtain⟨rc41,rz41,rset41,rb41⟩:=hG41.blk.rules;simp only[ncells]at rc41 rset41;have hw41:=hf41.size))
   all_goals
    go_wp2
    go_ret
    have hK:Kids w41 W0.heap.size [b40,b41] [E,B]:=(Kids.one (show Sp w40 W0.heap.size w40.heap.size b40 E from hs40) (Nat.le_refl _)).snoc hf41 (by simp;omega) hs41
    obtain⟨q1,q2,q3⟩:=Gr.stepL h hG hf0 ((show Fr [S.bp] W0 w40 from(Fr.refl _ _).drew.trans hf40).trans hf41) hps41 hK hown8 hg8 hat8
    have hs:=q3.sp
    rw[hks.out]at q1 q2 hs
    exact⟨c,a41,rfl,rfl,by simpa[ncells,hks.out]using q1,by simpa[ncells,hks.out]using q2,by simpa[ncells,hks.out,leaf]using hs⟩
end Go.Proofs.YtoomapkcoibmhaaGreatDoor
end
