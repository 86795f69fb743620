/- A part of the proof. -/
import Derived.Recover
import Derived.Test.YtoomapkcoibmhaaGreatDoorQ16
import Derived.Test.YtoomapkcoibmhaaGreatDoorQ17
set_option maxRecDepth 100000
set_option maxHeartbeats 12800000
set_option linter.all false
section
open Go Go.Proofs Go.RowKit Go.Shelf Ck
namespace Go.Proofs.YtoomapkcoibmhaaGreatDoor
theorem bindR {α β:Type} {x:Ck.P α} {f:α→Ck.P β} {ts:TS} {r:Except Flt (β × TS)} (h:(x >>= f) ts=some r) :
  ∃R,x ts=some R∧((∃e,R=.error e∧r=.error e)∨∃y t,R=.ok (y,t)∧f y t=some r):=by
 obtain⟨e,h1,rfl⟩|⟨y,t,h1,h2⟩:=bind_some h
 ·exact⟨_,h1,.inl ⟨e,rfl,rfl⟩⟩
 ·exact⟨_,h1,.inr ⟨y,t,rfl,h2⟩⟩
theorem function_any {S:PSt} {r:Rec} {n:Nat} (ihb:MAny 73 S r.block):MAny 44 S (pFunction S.F r n):=by
 intro a w res h hm0
 have hbp:=h.blk.lt
 have hlim:=h.lim
 obtain⟨i0,hi,hz0,hz1,hz2⟩:=info_parts Tryz.infoSprout
 unfold pFunction at hm0
 obtain⟨e,hm1,rfl⟩|⟨t,ts1,hm1,hm⟩:=bind_some hm0
 ·go_enter Tryz.func44,Tryz.ntmps44
  go_wp2_with (go_at_call 42;refine(take_er h hm1).mono ?_;rintro e w1 ⟨rfl,hf1⟩)
  exact⟨rfl,rfl,hf1⟩
 clear hm0
 go_enter Tryz.func44,Tryz.ntmps44
 go_wp2_with (first|(go_at_call 42;refine(take_ok h hm1).mono ?_;rintro e w1 ⟨rfl,a1,rfl,hps1,hf1⟩;clear hm1;obtain⟨tc,tz,tset,tb⟩:=(Blk.new w1 #[.int .i64 t.kind,.int .i64 t.at',.string ⟨t.text.toArray⟩,.int .i64 t.int,.int .u64 t.bits] 82).rules)|(go_at_call 39;refine(node_any _ _ _ _ _ ⟨_,_,_,rfl⟩).mono ?_;rintro e w9 ⟨rfl,rfl⟩))
 obtain⟨c,hc⟩:∃c,Hid (c=(w1.alloc (tokB t)).heap.size):=⟨_,rfl⟩
 obtain⟨W0,hW0⟩:∃X,X=(w1.alloc (tokB t)).alloc (.cells (ncells ⟨3,t.at',0,t.text,0,0⟩ 0 (.slice none 0 0)) 90):=⟨_,rfl⟩
 have hw1:=hf1.size
 have hG:=Gr.new (w1.alloc (tokB t)) w.heap.size ⟨3,t.at',0,t.text,0,0⟩ (by simp;omega)
 have hps0:=(hps1.fr ((Fr.refl [] _).alloc (tokB t))).fr ((Fr.refl [] _).alloc (.cells (ncells ⟨3,t.at',0,t.text,0,0⟩ 0 (.slice none 0 0)) 90))
 have hf0:=(hf1.alloc (tokB t)).alloc (.cells (ncells ⟨3,t.at',0,t.text,0,0⟩ 0 (.slice none 0 0)) 90)
 rw[←hW0]at hG hps0 hf0
 simp only[ncells,tokB]at hW0
 rw[←hW0]
 rw[←hc.out]at hG
 have hc':=hc.out
 simp only[World.size_alloc]at hc'
 rw[←hc']
 clear hc' hW0 hc hps1 hf1 hw1 tc tz tset tb
 obtain⟨e,hm2,rfl⟩|⟨u,ts2,hm2,hm⟩:=bind_some hm
 ·go_wp2_with (go_at_call 43;refine(must_er hps0 hm2).mono ?_;rintro e w2 ⟨rfl,hf2⟩)
  exact⟨rfl,rfl,hf0.trans hf2⟩
 have hbw:=hf0.size
 go_wp2_with (go_at_call 43;refine(must_ok hps0 hm2).mono ?_;rintro e w2 ⟨rfl,a2,rfl,hps2,hf2⟩;clear hm2)
 replace hG:=hG.fr hf2 (by simp;omega)
 replace hps0:=hps2
 replace hf0:=hf0.trans hf2
 clear hbw
 obtain⟨R,hR,hrest⟩:=bindR hm
 obtain⟨e,hm3,rfl⟩|⟨q,ts3,hm3,hR⟩:=bind_some hR
 ·have hre:res=.error e:=by
   obtain⟨e',h1,h2⟩|⟨y,t,h1,h2⟩:=hrest
   ·cases h1;exact h2
   ·cases h1
  subst hre
  go_wp2_with (go_at_call 41;refine(skip_er hps0 hm3).mono ?_;rintro e w3 ⟨rfl,hf3⟩)
  exact⟨rfl,rfl,hf0.trans hf3⟩
 have hl3:=skip_con S.F 3 [41] _ _ _ hm3
 have hbw:=hf0.size
 go_wp2_with (go_at_call 41;refine(skip_ok hps0 hm3).mono ?_;rintro e w3 ⟨rfl,a3,rfl,hps3,hf3⟩;clear hm3)
 replace hG:=hG.fr hf3 (by simp;omega)
 replace hps0:=hps3
 replace hf0:=hf0.trans hf3
 clear hbw
 have HR:=Lib.hid hrest
 have HM:=Lib.hid hR
 clear hrest hR hm hps2 hf2 hf3 hps3
 go_loopg [5] n (fun k v wr=>∃q,v=.bool q∧Hid (∃ks bs vk a,(if q=true then paramsL S.F k ks (S.ts a)=some R else R=.ok (ks,S.ts a))∧ks.length+(S.ts a).length≤70000∧PS S a wr∧Fr [S.bp] w wr∧Gr wr w.heap.size c ⟨3,t.at',0,t.text,0,0⟩ bs ks vk))
 case atStart =>
  refine⟨!q,rfl,[],[],.slice none 0 0,a3,?_,by rw[PSt.ts_length];simp;omega,hps0,hf0,hG⟩
  have:=HM.out
  cases q
  ·simpa using this
  ·simp only[if_true,pure_eq,Option.some.injEq]at this
   simpa using this.symm
 case round =>
  clear hps0 hf0 hG HM
  obtain⟨q,rfl,hq⟩:=hrel
  obtain⟨ks,bs,vk,a,hm,hln,hps0,hf0,hG⟩:=hq.out
  clear hq
  have hbw:=hf0.size
  cases q
  ·simp only[Bool.false_eq_true,if_false]at hm
   subst hm
   obtain⟨e',h1,h2⟩|⟨ps,ts,h1,hm⟩:=HR.out
   ·cases h1
   cases h1
   go_wp2
   have hkl:ks.length≤70000:=by omega
   obtain⟨kc,kz,kset,kb⟩:=hG.blk.rules
   simp only[ncells]at kc kset
   obtain⟨e,hm4,rfl⟩|⟨B,ts4,hm4,hm⟩:=bind_some hm
   ·go_region_dies
    all_goals (go_at_call 73;refine(ihb _ _ _ (hps0.fr (Fr.refl [] _).drew) hm4).mono ?_;rintro e w40 ⟨rfl,hf40⟩)
    all_goals exact⟨rfl,rfl,(hf0.drew).trans hf40⟩
   rw[pure_eq]at hm
   simp only[Option.some.injEq]at hm
   subst hm
   go_region_law (first|(refine step_append_lies _ rfl _ _ 88 rfl (c+1) 55 i0 (.pointer none) 1 8 Tryz.underlying88 hi hz0 hz1 hz2 rfl (by decide) vk ks.length (ptrs bs) rfl (by exact ownsRow_fr hG40.row ((Fr.refl [] _).alloc _) (by simp)) ⟨w40.heap.size,0,none⟩ 1 1 [ptrV b40] rfl rfl (World.news_of_block (Blk.new _ _ _)) (by simp[Value.oneCell',ptrV]) (by omega) (by simp[maxLen];omega) (by omega) (by have:=hG40.blk.lt;simp;omega) _ rfl ?_;intro g' cap' w8 hown8 hg8 hat8 hlt8;obtain⟨qc,qz,qset,qb⟩:=((hG40.blk.alloc _).grown hg8 (fun e=>by have:=(hG40.row.lt _ e).1;omega)).rules;simp only[ncells]at qc qset)|(go_simp;go_at_call 73;refine(ihb _ _ _ (hps0.fr (Fr.refl [] _).drew) hm4).mono ?_;rintro e w40 ⟨b40,a40,rfl,rfl,hps40,hf40,hs40⟩;have hG40:=(hG.fr (Fr.refl [] _).drew (by simp)).fr hf40 (by simp;omega);obtain⟨rc40,rz40,rset40,rb40⟩:=hG40.blk.rules;simp only[ncells]at rc40 rset40;have hw40:=hf40.size))
   all_goals
    go_wp2
    go_ret
    have hK:Kids w40 wr.heap.size [b40] [B]:=Kids.one (show Sp w40 wr.heap.size w40.heap.size b40 B from hs40) (Nat.le_refl _)
    obtain⟨q1,q2,q3⟩:=Gr.stepL h hG hf0 (show Fr [S.bp] wr w40 from(Fr.refl _ _).drew.trans hf40) hps40 hK hown8 hg8 hat8
    have hs:=q3.sp
    exact⟨c,a40,rfl,rfl,by simpa[ncells]using q1,by simpa[ncells]using q2,by simpa[ncells,leaf]using hs⟩
  ·simp only[if_true]at hm
   cases gk with
   | zero=>cases hm
   | succ k =>
    simp only[paramsL]at hm
    obtain⟨e,hm4,rfl⟩|⟨l,ts4,hm4,hm⟩:=bind_some hm
    ·have hre:res=.error e:=by
      obtain⟨e',h1,h2⟩|⟨y,t,h1,h2⟩:=HR.out
      ·cases h1;exact h2
      ·cases h1
     subst hre
     go_wp2_with (go_at_call 42;refine(take_er hps0 hm4).mono ?_;rintro e w4 ⟨rfl,hf4⟩)
     exact⟨rfl,rfl,hf0.trans hf4⟩
    have hl4:=take_con S.F 1 _ _ _ hm4
    go_wp2_with (go_at_call 42;refine(take_ok hps0 hm4).mono ?_;rintro e w4 ⟨rfl,a4,rfl,hps4,hf4⟩;clear hm4)
    obtain⟨W0,hW0⟩:∃X,X=w4.alloc (tokB l):=⟨_,rfl⟩
    have hBX:=Blk.new w4 #[.int .i64 l.kind,.int .i64 l.at',.string ⟨l.text.toArray⟩,.int .i64 l.int,.int .u64 l.bits] 82
    replace hG:=(hG.fr hf4 (by simp;omega)).fr ((Fr.refl [] _).alloc (tokB l)) (by simp)
    replace hps0:=hps4.fr ((Fr.refl [] _).alloc (tokB l))
    replace hf0:=(hf0.trans hf4).alloc (tokB l)
    have HM:=Lib.hid hm
    clear hm hbw hps4 hf4
    rw[←hW0]at hG hps0 hf0
    simp only[tokB]at hW0
    rw[←hW0]at hBX ⊢
    clear hW0
    obtain⟨lc,lz,lset,lb⟩:=hBX.rules
    have hkl:ks.length≤70000:=by omega
    have hbw:=hf0.size
    obtain⟨kc,kz,kset,kb⟩:=hG.blk.rules
    simp only[ncells]at kc kset
    go_cut []from 19 to 41 (fun W=>Hid (∃bs vk,PS S a4 W∧Fr [S.bp] w W∧Gr W w.heap.size c ⟨3,t.at',0,t.text,0,0⟩ bs (ks++[(leaf 4 l.at' l.text [])]) vk))
    case first =>
     have hs40:Sp (W0.drew.alloc (.cells #[.int .i64 4,.int .i64 l.at',.int .i64 0,.string ⟨l.text.toArray⟩,.int .i64 0,.int .u64 0,.slice none 0 0] 90)) W0.heap.size (W0.heap.size+1) W0.heap.size (leaf 4 l.at' l.text []):=by simpa[ncells,leaf]using leaf_sp (W:=W0.drew) (lo:=W0.heap.size) ⟨4,l.at',0,l.text,0,0⟩ (Nat.le_refl _)
     have hf40:Fr [] W0 (W0.drew.alloc (.cells #[.int .i64 4,.int .i64 l.at',.int .i64 0,.string ⟨l.text.toArray⟩,.int .i64 0,.int .u64 0,.slice none 0 0] 90)):=(Fr.refl [] W0).drew.alloc _
     have hG40:=hG.fr hf40 (by simp)
     have hps40:=hps0.fr hf40
     have hz40:(W0.drew.alloc (.cells #[.int .i64 4,.int .i64 l.at',.int .i64 0,.string ⟨l.text.toArray⟩,.int .i64 0,.int .u64 0,.slice none 0 0] 90)).heap.size=W0.heap.size+1:=by simp
     obtain⟨W4,hW4⟩:∃X,X=W0.drew.alloc (.cells #[.int .i64 4,.int .i64 l.at',.int .i64 0,.string ⟨l.text.toArray⟩,.int .i64 0,.int .u64 0,.slice none 0 0] 90):=⟨_,rfl⟩
     rw[←hW4]at hs40 hf40 hG40 hps40 hz40
     have HZ:=Lib.hid hz40
     clear hz40
     have cn:Calls Tryz.prog 39 #[.int .i64 4,.int .i64 l.at',.string ⟨l.text.toArray⟩,.slice none 0 0] W0.drew fun e w'=>e=.returned (.pointer (some ⟨W0.heap.size,0,none⟩))∧W4=w':=(node_any 4 l.at' l.text _ _ ⟨_,_,_,rfl⟩).mono (fun e w' hh=>⟨by simpa using hh.1,by rw[hW4];exact hh.2.symm⟩)
     clear hW4
     obtain⟨rc,rz,rset,rb⟩:=hG40.blk.rules
     simp only[ncells]at rc rset
     go_region_law (first|(refine step_append_lies _ rfl _ _ 88 rfl (c+1) 55 i0 (.pointer none) 1 8 Tryz.underlying88 hi hz0 hz1 hz2 rfl (by decide) vk ks.length (ptrs bs) rfl (by exact ownsRow_fr hG40.row ((Fr.refl [] _).alloc _) (by simp)) ⟨W4.heap.size,0,none⟩ 1 1 [ptrV W0.heap.size] rfl rfl (World.news_of_block (Blk.new _ _ _)) (by simp[Value.oneCell',ptrV]) (by omega) (by simp[maxLen];omega) (by omega) (by have:=hG40.blk.lt;simp;omega) _ rfl ?_;intro g' cap' w8 hown8 hg8 hat8 hlt8;obtain⟨qc,qz,qset,qb⟩:=((hG40.blk.alloc _).grown hg8 (fun e=>by have:=(hG40.row.lt _ e).1;omega)).rules;simp only[ncells]at qc qset)|(go_simp;go_at_call 39;refine cn.mono ?_;rintro e w9 ⟨rfl,rfl⟩))
     all_goals
      go_wp2
      go_meet
      case rel =>
       have hK:Kids W4 W0.heap.size [W0.heap.size] [(leaf 4 l.at' l.text [])]:=Kids.one hs40 (by have:=HZ.out;omega)
       obtain⟨q1,q2,q3⟩:=Gr.stepL h hG hf0 hf40.nil hps40 hK hown8 hg8 hat8
       exact⟨_,_,by simpa[ncells]using q1,by simpa[ncells]using q2,by simpa[ncells]using q3⟩
    case rest =>
     clear hG hps0 hf0 kc kz kset kb hbw hBX lc lz lset lb hkl
     obtain⟨bs,vk,hps0,hf0,hG⟩:=hcut.out
     clear hcut
     have hm:=HM.out
     clear HM
     have hbw:=hf0.size
     obtain⟨e,hm5,rfl⟩|⟨p,ts5,hm5,hm⟩:=bind_some hm
     ·have hre:res=.error e:=by
       obtain⟨e',h1,h2⟩|⟨y,t,h1,h2⟩:=HR.out
       ·cases h1;exact h2
       ·cases h1
      subst hre
      go_wp2_with (go_at_call 41;refine(skip_er hps0 hm5).mono ?_;rintro e w5 ⟨rfl,hf5⟩)
      exact⟨rfl,rfl,hf0.trans hf5⟩
     have hl5:=skip_con S.F 3 [44] _ _ _ hm5
     cases p
     ·simp only[Bool.false_eq_true,if_false]at hm
      obtain⟨e,hm6,rfl⟩|⟨u,ts6,hm6,hm⟩:=bind_some hm
      ·have hre:res=.error e:=by
        obtain⟨e',h1,h2⟩|⟨y,t,h1,h2⟩:=HR.out
        ·cases h1;exact h2
        ·cases h1
       subst hre
       go_wp2_with (first|(go_at_call 41;refine(skip_ok hps0 hm5).mono ?_;rintro e w5 ⟨rfl,a5,rfl,hps5,hf5⟩;clear hm5)|(go_at_call 43;refine(must_er hps5 hm6).mono ?_;rintro e w6 ⟨rfl,hf6⟩))
       exact⟨rfl,rfl,(hf0.trans hf5).trans hf6⟩
      have hl6:=must_con S.F 3 [41] _ _ _ hm6
      rw[pure_eq]at hm
      simp only[Option.some.injEq]at hm
      have HE:=Lib.hid hm;clear hm
      go_wp2_with (first|(go_at_call 41;refine(skip_ok hps0 hm5).mono ?_;rintro e w5 ⟨rfl,a5,rfl,hps5,hf5⟩;clear hm5)|(go_at_call 43;refine(must_ok hps5 hm6).mono ?_;rintro e w6 ⟨rfl,a6,rfl,hps6,hf6⟩;clear hm6))
      go_roundg k
      case measure=>omega
      case rel=>exact⟨false,rfl,ks++[(leaf 4 l.at' l.text [])],bs,vk,a6,by simpa using HE.out.symm,by simp;omega,hps6,(hf0.trans hf5).trans hf6,(hG.fr hf5 (by simp;omega)).fr hf6 (by simp;omega)⟩
     ·simp only[if_true]at hm
      have HE:=Lib.hid hm;clear hm
      go_wp2_with (go_at_call 41;refine(skip_ok hps0 hm5).mono ?_;rintro e w5 ⟨rfl,a5,rfl,hps5,hf5⟩;clear hm5)
      go_roundg k
      case measure=>omega
      case rel=>exact⟨true,rfl,ks++[(leaf 4 l.at' l.text [])],bs,vk,a5,by simpa using HE.out,by simp;omega,hps5,hf0.trans hf5,hG.fr hf5 (by simp;omega)⟩
theorem program_any {S:PSt} {r:Rec} {m n:Nat} (hcf:Con 1 (pFunction S.F r m)) (ihf:MAny 44 S (pFunction S.F r m)):MAny 25 S (programL S.F r m n [] >>= fun ks=>pure (leaf 1 0 [] ks)):=by
 intro a w res h hm0
 have hbp:=h.blk.lt
 have hlim:=h.lim
 obtain⟨i0,hi,hz0,hz1,hz2⟩:=info_parts Tryz.infoSprout
 obtain⟨R,hR,hres⟩:=pure_some hm0
 have HR:=Lib.hid hres
 have HM:=Lib.hid hR
 clear hres hR hm0
 go_enter Tryz.func25,Tryz.ntmps25
 go_wp2_with (go_at_call 39;refine(node_any _ _ _ _ _ ⟨_,_,_,rfl⟩).mono ?_;rintro e w9 ⟨rfl,rfl⟩)
 obtain⟨c,hc⟩:∃c,Hid (c=w.heap.size):=⟨_,rfl⟩
 have hG:=Gr.new w w.heap.size ⟨1,0,0,[],0,0⟩ (Nat.le_refl _)
 have hps0:=h.fr ((Fr.refl [] _).alloc (.cells (ncells ⟨1,0,0,[],0,0⟩ 0 (.slice none 0 0)) 90))
 have hf0:=(Fr.refl [S.bp] w).alloc (.cells (ncells ⟨1,0,0,[],0,0⟩ 0 (.slice none 0 0)) 90)
 go_loopg [] n (fun k wr=>Hid (∃ks bs vk a,programL S.F r m k ks (S.ts a)=some R∧ks.length+(S.ts a).length≤70000∧PS S a wr∧Fr [S.bp] w wr∧Gr wr w.heap.size w.heap.size ⟨1,0,0,[],0,0⟩ bs ks vk))
 case atStart =>
  apply Lib.hid
  exact⟨[],[],.slice none 0 0,a,HM.out,by rw[PSt.ts_length];simp;omega,hps0,hf0,hG⟩
 case round =>
  clear hps0 hf0 hG HM hc
  obtain⟨ks,bs,vk,a,hm,hln,hps0,hf0,hG⟩:=hrel.out
  clear hrel
  have hbw:=hf0.size
  cases gk with
  | zero=>cases hm
  | succ k =>
   simp only[programL]at hm
   obtain⟨e,hm1,rfl⟩|⟨t,ts1,hm1,hm⟩:=bind_some hm
   ·go_wp2_with (go_at_call 40;refine(look_er hps0 hm1).mono ?_;rintro e w1 ⟨rfl,hf1⟩)
    rw[HR.out]
    exact⟨rfl,rfl,hf0.trans hf1⟩
   have c1:=look_ok hps0 hm1
   obtain rfl:ts1=S.ts a:=by rw[look_eq]at hm1;split at hm1<;>first|(cases hm1;rfl)|cases hm1
   clear hm1
   cases h7:t.kind==7
   case true =>
    have h7':(t.kind != 7)=false:=by rw[bne,h7];rfl
    simp only[h7,if_true,pure_eq,Option.some.injEq]at hm
    subst hm
    go_wp2_with (go_at_call 40;refine(c1).mono ?_;rintro e w1 ⟨rfl,_,ha,hps1,hf1⟩;clear c1)
    go_ret
    rw[HR.out]
    have hs:=(hG.fr hf1 (by simp)).sp
    exact⟨_,a,rfl,rfl,hps1,hf0.trans hf1.nil,by simpa[leaf]using hs⟩
   have h7':(t.kind != 7)=true:=by rw[bne,h7];rfl
   simp only[h7,Bool.false_eq_true,if_false]at hm
   obtain⟨e,hm2,rfl⟩|⟨q,ts2,hm2,hm⟩:=bind_some hm
   ·go_wp2_with (first|(go_at_call 40;refine(c1).mono ?_;rintro e w1 ⟨rfl,_,ha,hps1,hf1⟩;clear c1)|(go_at_call 41;refine(skip_er hps1 hm2).mono ?_;rintro e w2 ⟨rfl,hf2⟩))
    rw[HR.out]
    exact⟨rfl,rfl,(hf0.trans hf1.nil).trans hf2⟩
   have c2:=fun W (hW:PS S a W)=>skip_ok hW hm2
   have hl2:=skip_con S.F 2 [108,101,116] _ _ _ hm2
   clear hm2
   cases q
   ·simp only[Bool.false_eq_true,if_false]at hm
    obtain⟨e,hm3,rfl⟩|⟨q,ts3,hm3,hm⟩:=bind_some hm
    ·go_wp2_with (first|(go_at_call 40;refine(c1).mono ?_;rintro e w1 ⟨rfl,_,ha,hps1,hf1⟩;clear c1)|(go_at_call 41;refine(c2 _ hps1).mono ?_;rintro e w2 ⟨rfl,a2,rfl,hps2,hf2⟩;clear c2;have hf02:=(hf0.trans hf1.nil).trans hf2;have hG2:=(hG.fr hf1 (by simp)).fr hf2 (by simp;omega))|(go_at_call 41;refine(skip_er hps2 hm3).mono ?_;rintro e w3 ⟨rfl,hf3⟩))
     rw[HR.out]
     exact⟨rfl,rfl,hf02.trans hf3⟩
    have hl3:=skip_con S.F 2 [102,110] _ _ _ hm3
    have c3:=fun a W (ha:ts2=S.ts a) (hW:PS S a W)=>skip_ok hW (by rw[←ha];exact hm3)
    clear hm3
    cases q
    ·simp only[Bool.false_eq_true,if_false]at hm
     obtain⟨f,rfl,cw⟩:=wrong_res hm
     clear hm
     go_wp2_with (first|(go_at_call 40;refine(c1).mono ?_;rintro e w1 ⟨rfl,_,ha,hps1,hf1⟩;clear c1)|(go_at_call 41;refine(c2 _ hps1).mono ?_;rintro e w2 ⟨rfl,a2,ha2,hps2,hf2⟩;clear c2;have hf02:=(hf0.trans hf1.nil).trans hf2;have hG2:=(hG.fr hf1 (by simp)).fr hf2 (by simp;omega))|(go_at_call 41;refine(c3 _ _ ha2 hps2).mono ?_;rintro e w3 ⟨rfl,a3,rfl,hps3,hf3⟩;clear c3;have hf03:=hf02.trans hf3;have hG3:=hG2.fr hf3 (by simp;omega))|(go_at_call 45;refine(cw _ _ rfl hps3).mono ?_;rintro e w8 ⟨rfl,hf8⟩))
     rw[HR.out]
     exact⟨rfl,rfl,hf03.trans hf8⟩
    ·simp only[if_true]at hm
     go_wp2_with (first|(go_at_call 40;refine(c1).mono ?_;rintro e w1 ⟨rfl,_,ha,hps1,hf1⟩;clear c1)|(go_at_call 41;refine(c2 _ hps1).mono ?_;rintro e w2 ⟨rfl,a2,ha2,hps2,hf2⟩;clear c2;have hf02:=(hf0.trans hf1.nil).trans hf2;have hG2:=(hG.fr hf1 (by simp)).fr hf2 (by simp;omega))|(go_at_call 41;refine(c3 _ _ ha2 hps2).mono ?_;rintro e w3 ⟨rfl,a3,rfl,hps3,hf3⟩;clear c3;have hf03:=hf02.trans hf3;have hG3:=hG2.fr hf3 (by simp;omega)))
     clear hG hG2 hps0 hps1 hps2 hf1 hf2 hf02 hf3
     have hG:=hG3
     have hps0:=hps3
     replace hf0:=hf03
     clear hG3 hps3 hf03
     have hkl:ks.length≤70000:=by omega
     replace hbw:=hf0.size
     obtain⟨c,hc⟩:∃c,c=w.heap.size:=⟨_,rfl⟩
     obtain⟨kc,kz,kset,kb⟩:=hG.blk.rules
     simp only[ncells]at kc kset
     clear hc c
     obtain⟨e,hm4,rfl⟩|⟨E,ts4,hm4,hm⟩:=bind_some hm
     ·go_region_dies
      all_goals (go_at_call 44;refine(ihf _ _ _ (hps0.fr (Fr.refl [] _).drew) hm4).mono ?_;rintro e w40 ⟨rfl,hf40⟩)
      all_goals rw[HR.out];exact⟨rfl,rfl,(hf0.drew).trans hf40⟩
     have hl4:=hcf _ _ _ hm4
     have HM:=Lib.hid hm
     clear hm
     go_region_law (first|(refine step_append_lies _ rfl _ _ 88 rfl (w.heap.size+1) 55 i0 (.pointer none) 1 8 Tryz.underlying88 hi hz0 hz1 hz2 rfl (by decide) vk ks.length (ptrs bs) rfl (by exact ownsRow_fr hG40.row ((Fr.refl [] _).alloc _) (by simp)) ⟨w40.heap.size,0,none⟩ 1 1 [ptrV b40] rfl rfl (World.news_of_block (Blk.new _ _ _)) (by simp[Value.oneCell',ptrV]) (by omega) (by simp[maxLen];omega) (by omega) (by have:=hG40.blk.lt;simp;omega) _ rfl ?_;intro g' cap' w8 hown8 hg8 hat8 hlt8;obtain⟨qc,qz,qset,qb⟩:=((hG40.blk.alloc _).grown hg8 (fun e=>by have:=(hG40.row.lt _ e).1;omega)).rules;simp only[ncells]at qc qset)|(go_simp;go_at_call 44;refine(ihf _ _ _ (hps0.fr (Fr.refl [] _).drew) hm4).mono ?_;rintro e w40 ⟨b40,a40,rfl,rfl,hps40,hf40,hs40⟩;have hG40:=(hG.fr (Fr.refl [] _).drew (by simp)).fr hf40 (by simp;omega);obtain⟨rc40,rz40,rset40,rb40⟩:=hG40.blk.rules;simp only[ncells]at rc40 rset40;have hw40:=hf40.size))
     all_goals
      go_wp2
      go_roundg k
      case measure=>omega
      case rel =>
       have hK:Kids w40 w3.heap.size [b40] [E]:=Kids.one (show Sp w40 w3.heap.size w40.heap.size b40 E from hs40) (Nat.le_refl _)
       obtain⟨q1,q2,q3⟩:=Gr.stepL h hG hf0 (show Fr [S.bp] w3 w40 from(Fr.refl _ _).drew.trans hf40) hps40 hK hown8 hg8 hat8
       apply Lib.hid
       exact⟨ks++[E],_,_,a40,HM.out,by simp;omega,by simpa[ncells]using q1,by simpa[ncells]using q2,by simpa[ncells]using q3⟩
   ·simp only[if_true]at hm
    obtain⟨e,hm3,rfl⟩|⟨l,ts3,hm3,hm⟩:=bind_some hm
    ·go_wp2_with (first|(go_at_call 40;refine(c1).mono ?_;rintro e w1 ⟨rfl,_,ha,hps1,hf1⟩;clear c1)|(go_at_call 41;refine(c2 _ hps1).mono ?_;rintro e w2 ⟨rfl,a2,rfl,hps2,hf2⟩;clear c2;have hf02:=(hf0.trans hf1.nil).trans hf2;have hG2:=(hG.fr hf1 (by simp)).fr hf2 (by simp;omega))|(go_at_call 42;refine(take_er hps2 hm3).mono ?_;rintro e w3 ⟨rfl,hf3⟩))
     rw[HR.out]
     exact⟨rfl,rfl,hf02.trans hf3⟩
    have hl3:=take_con S.F 1 _ _ _ hm3
    obtain⟨e,hm4,rfl⟩|⟨u,ts4,hm4,hm⟩:=bind_some hm
    ·go_wp2_with (first|(go_at_call 40;refine(c1).mono ?_;rintro e w1 ⟨rfl,_,ha,hps1,hf1⟩;clear c1)|(go_at_call 41;refine(c2 _ hps1).mono ?_;rintro e w2 ⟨rfl,a2,rfl,hps2,hf2⟩;clear c2;have hf02:=(hf0.trans hf1.nil).trans hf2;have hG2:=(hG.fr hf1 (by simp)).fr hf2 (by simp;omega))|(go_at_call 42;refine(take_ok hps2 hm3).mono ?_;rintro e w3 ⟨rfl,a3,rfl,hps3,hf3⟩;clear hm3)|(go_at_call 43;refine(must_er (hps3.fr ((Fr.refl [] _).alloc (tokB l))) hm4).mono ?_;rintro e w4 ⟨rfl,hf4⟩))
     rw[HR.out]
     exact⟨rfl,rfl,((hf02.trans hf3).alloc (tokB l)).trans hf4⟩
    have hl4:=must_con S.F 3 [59] _ _ _ hm4
    go_wp2_with (first|(go_at_call 40;refine(c1).mono ?_;rintro e w1 ⟨rfl,_,ha,hps1,hf1⟩;clear c1)|(go_at_call 41;refine(c2 _ hps1).mono ?_;rintro e w2 ⟨rfl,a2,rfl,hps2,hf2⟩;clear c2;have hf02:=(hf0.trans hf1.nil).trans hf2;have hG2:=(hG.fr hf1 (by simp)).fr hf2 (by simp;omega))|(go_at_call 42;refine(take_ok hps2 hm3).mono ?_;rintro e w3 ⟨rfl,a3,rfl,hps3,hf3⟩;clear hm3)|(go_at_call 43;refine(must_ok (hps3.fr ((Fr.refl [] _).alloc (tokB l))) hm4).mono ?_;rintro e w4 ⟨rfl,a4,rfl,hps4,hf4⟩;clear hm4))
    have hBX:=(Blk.new w3 #[.int .i64 l.kind,.int .i64 l.at',.string ⟨l.text.toArray⟩,.int .i64 l.int,.int .u64 l.bits] 82).fr hf4 (by have:=hf02.trans hf3 |>.size;simp;omega)
    replace hG:=((hG2.fr hf3 (by simp;omega)).fr ((Fr.refl [] _).alloc (tokB l)) (by simp)).fr hf4 (by simp;omega)
    replace hf0:=((hf02.trans hf3).alloc (tokB l)).trans hf4
    have hps0':=hps4
    clear hps0 hps1 hps2 hps3 hf1 hf2 hf3 hf4 hf02 hG2 hps4
    have hps0:=hps0'
    clear hps0'
    have HM:=Lib.hid hm
    clear hm
    obtain⟨lc,lz,lset,lb⟩:=hBX.rules
    have hkl:ks.length≤70000:=by omega
    replace hbw:=hf0.size
    obtain⟨kc,kz,kset,kb⟩:=hG.blk.rules
    simp only[ncells]at kc kset
    have hs40:Sp (w4.drew.alloc (.cells #[.int .i64 2,.int .i64 l.at',.int .i64 0,.string ⟨l.text.toArray⟩,.int .i64 0,.int .u64 0,.slice none 0 0] 90)) w4.heap.size (w4.heap.size+1) w4.heap.size (leaf 2 l.at' l.text []):=by simpa[ncells,leaf]using leaf_sp (W:=w4.drew) (lo:=w4.heap.size) ⟨2,l.at',0,l.text,0,0⟩ (Nat.le_refl _)
    have hf40:Fr [] w4 (w4.drew.alloc (.cells #[.int .i64 2,.int .i64 l.at',.int .i64 0,.string ⟨l.text.toArray⟩,.int .i64 0,.int .u64 0,.slice none 0 0] 90)):=(Fr.refl [] w4).drew.alloc _
    have hG40:=hG.fr hf40 (by simp)
    have hps40:=hps0.fr hf40
    have hz40:(w4.drew.alloc (.cells #[.int .i64 2,.int .i64 l.at',.int .i64 0,.string ⟨l.text.toArray⟩,.int .i64 0,.int .u64 0,.slice none 0 0] 90)).heap.size=w4.heap.size+1:=by simp
    obtain⟨W4,hW4⟩:∃X,X=w4.drew.alloc (.cells #[.int .i64 2,.int .i64 l.at',.int .i64 0,.string ⟨l.text.toArray⟩,.int .i64 0,.int .u64 0,.slice none 0 0] 90):=⟨_,rfl⟩
    rw[←hW4]at hs40 hf40 hG40 hps40 hz40
    have HZ:=Lib.hid hz40
    clear hz40
    have cn:Calls Tryz.prog 39 #[.int .i64 2,.int .i64 l.at',.string ⟨l.text.toArray⟩,.slice none 0 0] w4.drew fun e w'=>e=.returned (.pointer (some ⟨w4.heap.size,0,none⟩))∧W4=w':=(node_any 2 l.at' l.text _ _ ⟨_,_,_,rfl⟩).mono (fun e w' hh=>⟨by simpa using hh.1,by rw[hW4];exact hh.2.symm⟩)
    clear hW4
    obtain⟨rc,rz,rset,rb⟩:=hG40.blk.rules
    simp only[ncells]at rc rset
    go_region_law (first|(refine step_append_lies _ rfl _ _ 88 rfl (w.heap.size+1) 55 i0 (.pointer none) 1 8 Tryz.underlying88 hi hz0 hz1 hz2 rfl (by decide) vk ks.length (ptrs bs) rfl (by exact ownsRow_fr hG40.row ((Fr.refl [] _).alloc _) (by simp)) ⟨W4.heap.size,0,none⟩ 1 1 [ptrV w4.heap.size] rfl rfl (World.news_of_block (Blk.new _ _ _)) (by simp[Value.oneCell',ptrV]) (by omega) (by simp[maxLen];omega) (by omega) (by have:=hG40.blk.lt;simp;omega) _ rfl ?_;intro g' cap' w8 hown8 hg8 hat8 hlt8;obtain⟨qc,qz,qset,qb⟩:=((hG40.blk.alloc _).grown hg8 (fun e=>by have:=(hG40.row.lt _ e).1;omega)).rules;simp only[ncells]at qc qset)|(go_simp;go_at_call 39;refine cn.mono ?_;rintro e w9 ⟨rfl,rfl⟩))
    all_goals
     go_wp2
     go_roundg k
     case measure=>omega
     case rel =>
      have hK:Kids W4 w4.heap.size [w4.heap.size] [(leaf 2 l.at' l.text [])]:=Kids.one hs40 (by have:=HZ.out;omega)
      obtain⟨q1,q2,q3⟩:=Gr.stepL h hG hf0 hf40.nil hps40 hK hown8 hg8 hat8
      apply Lib.hid
      exact⟨ks++[(leaf 2 l.at' l.text [])],_,_,a4,HM.out,by simp;omega,by simpa[ncells]using q1,by simpa[ncells]using q2,by simpa[ncells]using q3⟩
structure RecAny (S:PSt) (r:Rec):Prop where
 block:MAny 73 S r.block
 statement:MAny 103 S r.statement
 choice:MAny 155 S r.choice
 loop:LoopAny S r.loop
 expr:MAny 154 S r.expr
 and':MAny 186 S r.and'
 not':MAny 217 S r.not'
 level:LevelAny S r.level
 unary:MAny 286 S r.unary
 primary:MAny 298 S r.primary
theorem recs_any (S:PSt):∀n,RecAny S (recs S.F n)
 | 0=>⟨fun _ _ _ _ h=>(by cases h),fun _ _ _ _ h=>(by cases h),fun _ _ _ _ h=>(by cases h),fun _ _ _ _ _ _ _ h=>(by cases h),fun _ _ _ _ h=>(by cases h),fun _ _ _ _ h=>(by cases h),fun _ _ _ _ h=>(by cases h),fun _ _ _ _ _ _ h=>(by cases h),fun _ _ _ _ h=>(by cases h),fun _ _ _ _ h=>(by cases h)⟩
 | n+1=>by
  have ih:=recs_any S n
  have hc:=recs_con S.F n
  have hs:=recs_sat S.F n
  exact⟨block_any hc.statement ih.statement,statement_any hs.expr ih.expr ih.choice ih.loop,choice_any ih.expr ih.block ih.choice,loop_any ih.expr ih.block,expr_any ih.and',and_any ih.not',not_any ih.not' ih.level,level_any ih.level ih.unary,unary_any ih.unary ih.primary ih.expr,primary_any hc.expr ih.expr⟩
theorem pProgram_any (S:PSt) (n:Nat):MAny 25 S (pProgram S.F n) :=
 program_any (pFunction_con (recs_con S.F n) n) (function_any (recs_any S n).block)
def RS (lo hi:Nat) (v:Value):List Nat:=List.range' lo (hi-lo)++v.ownBlock.toList
theorem mem_RS {lo hi k:Nat} {v:Value}:k∈RS lo hi v↔(lo≤k∧k<hi)∨v.ownBlock=some k:=by
 unfold RS
 simp only[List.mem_append,List.mem_range'_1,Option.mem_toList]
 constructor
 ·rintro(h|h)
  ·exact .inl (by omega)
  ·exact .inr h
 ·rintro(h|h)
  ·exact .inl (by omega)
  ·exact .inr h
abbrev RowAny (T:Tree):Prop:=∀(w:World) (lo hi b base:Nat) (v:Value) (L:List Ck.Node),Sp w lo hi b T→hi≤base→base≤w.heap.size→w.ownsRow base 40 6 v L.length (nvals L)→L.length+T.row.length≤1000000000 →
  Calls Tryz.prog 26 #[.pointer (some ⟨b,0,none⟩),v] w fun e w'=>∃v',e=.returned v'∧w'.ownsRow base 40 6 v' (L++T.row).length (nvals (L++T.row))∧Fr (RS lo hi v) w w'∧∀k,v'.ownBlock=some k→v.ownBlock=some k∨w.heap.size≤k
theorem news_blk {w:World} {b:Nat} {c:Array Value} {T U:TypeId} {cs:Array Value}:∀j u,cs.toList[j]? = some u→((Ck.blk w b c T).alloc (.cells cs U)).cell? ((⟨w.heap.size,0,none⟩:Addr).add j)=some u:=by
 have h:=Blk.new (Ck.blk w b c T) cs U
 rw[blk_size]at h
 exact World.news_of_block h
theorem rows_length (ks:List Tree) (i:Nat):(rows (ks.take i)).length≤(rows ks).length:=by
 induction ks generalizing i with
 | nil=>simp
 | cons t l ih =>
  cases i with
  | zero=>simp[rows]
  | succ i=>simp only[List.take_succ_cons,rows,List.length_append];have:=ih i;omega
theorem row_pos (t:Tree):1≤t.row.length:=by
 cases t;simp[Tree.row]
theorem rows_ge (ks:List Tree):ks.length≤(rows ks).length:=by
 induction ks with
 | nil=>simp
 | cons t l ih=>simp only[rows,List.length_append,List.length_cons];have:=row_pos t;omega
theorem rows_take_succ (ks:List Tree) (i:Nat) (t:Tree) (h:ks[i]? = some t):rows (ks.take (i+1))=rows (ks.take i)++t.row:=by
 induction ks generalizing i with
 | nil=>simp at h
 | cons a l ih =>
  cases i with
  | zero=>simp at h;subst h;simp[rows]
  | succ i=>simp at h;simp only[List.take_succ_cons,rows,ih i h,List.append_assoc]
theorem row_step (n:Ck.Node) (ks:List Tree) (ih:∀t∈ks,RowAny t):RowAny (.mk n ks):=by
 intro w lo hi b base v L hs hhb hbs hrow hlen
 obtain⟨i0,hi0,hz0,hz1,hz2⟩:=info_parts Tryz.infoNode
 have hlt:=hs.lt
 simp only[Sp]at hs
 obtain⟨_,_,z,vk,bs,hB,hkr,hvk,hkids⟩:=hs
 have hbl:=hkids.length
 obtain⟨kc,kz,kset,kb⟩:=hB.rules
 simp only[ncells]at kc kset
 have hkv:∃x cp,vk=.slice x ks.length cp∧(0<ks.length→∃g,x=some ⟨g,0,none⟩∧g<hi):=by
  rcases hkr.2 with⟨rfl,h0⟩|⟨g,cap,cur,rfl,_⟩
  ·exact⟨none,0,by rw[h0],fun h=>by omega⟩
  ·exact⟨_,_,rfl,fun _=>⟨g,rfl,hvk g rfl⟩⟩
 obtain⟨x,cp,rfl,hx⟩:=hkv
 have hL:L.length≤1000000000:=by omega
 have hT:L.length+(1+(rows ks).length)≤1000000000:=by simpa[Tree.row,Nat.add_comm]using hlen
 have hv:∃p m q,v=.slice p m q:=by
  rcases hrow.2 with⟨rfl,_⟩|⟨g,cap,cur,rfl,_⟩<;>exact⟨_,_,_,rfl⟩
 have hvlt:=hrow.lt
 obtain⟨v0,hv0⟩:∃v0,Hid (v=v0):=⟨v,rfl⟩
 clear hv
 go_enter Tryz.func26,Tryz.ntmps26
 go_wp2_with (at_builtin;refine wpList_append_lies _ rfl _ _ 23 rfl base 40 i0 (.agg #[.int .i64 0,.int .i64 0,.int .i64 0,.string ⟨#[]⟩,.int .i64 0,.int .u64 0]) 6 56 Tryz.underlying23 hi0 hz0 hz1 hz2 rfl (by decide) v L.length (nvals L) rfl (ownsRow_fr (owns_blk hrow (by omega)) ((Fr.refl [] _).alloc _) (by simp)) ⟨w.heap.size,0,none⟩ 1 1 (nodec { n with kids:=(ks.length:Int) }) rfl rfl (fun j u hu=>news_blk j u hu) (by simp[nodec,Value.oneCell']) (by omega) (by simp[maxLen];omega) (by omega) (by simp[blk_size];omega) _ rfl ?_;intro g' cap' w3 hown3 hg3 hat3 hlt3;obtain⟨qc,qz,qset,qb⟩:=(((Blk.blk kb).alloc _).grown hg3 (fun e=>by have:=(hvlt _ e).1;omega)).rules)
 have hf3:Fr (RS lo hi v) w w3:=(((Fr.refl (RS lo hi v) w).blk (.inl (mem_RS.2 (.inl hlt))) _ _).alloc _).grown hg3 (fun k e=>.inl (mem_RS.2 (.inr e)))
 have hkids3:Sps w3 lo hi b (Value.slice x ks.length cp).ownBlock bs ks:=hkids.keepx (fun k k1 k2 k3 k4=>by
  rw[hg3.block k (by simp[blk_size];omega) (fun e=>by have:=(hvlt k e.symm).1;omega),Below.heap_alloc _ _ k (by rw[blk_size];omega),blk_heap_other k3])
 have hcell3:∀g,x=some ⟨g,0,none⟩→∀j y,bs[j]? = some y→w3.cell? ⟨g,j,none⟩=some (ptrV y):=fun g hg j y hy=>by
  have hgl:=hvk g (by rw[hg];rfl)
  have hgb:g≠b:=by
   intro e
   rcases hkr.2 with⟨e0,_⟩|⟨g0,cap,cur,e0,_,hgg,_⟩
   ·rw[hg]at e0;cases e0
   ·rw[hg]at e0;cases e0
    have:=hgg.symm.trans (show w.heap[g]? = some (.cells (ncells n z (.slice x ks.length cp)) 90)by rw[e];exact hB)
    simp at this
  have h1:=hkr.cells (g:=g) (by rw[hg];rfl) j (ptrV y) (by simp[ptrs,hy])
  rw[add0]at h1
  rw[←h1]
  refine World.cell?_of_block (a:=⟨g,j,none⟩) ?_
  show w3.heap[g]? = w.heap[g]?
  rw[hg3.block g (by simp[blk_size];omega) (fun e=>by have:=(hvlt g e.symm).1;omega),Below.heap_alloc _ _ g (by rw[blk_size];omega),blk_heap_other hgb]
 have hat3':∀k,(Value.slice (some ⟨g',0,none⟩) (L.length+1) cap').ownBlock=some k→v.ownBlock=some k∨w.heap.size≤k:=fun k e=>by
  have:g'=k:=by simpa[Value.ownBlock]using e
  rcases hat3 with h1|h1
  ·exact .inl (by rw[h1,this])
  ·exact .inr (by rw[←this,h1];simp[blk_size])
 clear hg3 hat3 hlt3 qc qz qset qb kc kz kset kb hv0 hkr hrow
 go_loopg [1,28] ks.length (fun k v2 iv wr=>∃(i:Nat) (v1:Value),v1=v2∧iv=.int .i64 i∧k+i=ks.length∧Hid (wr.ownsRow base 40 6 v1 (L.length+1+(rows (ks.take i)).length) (nvals (L++[{ n with kids:=(ks.length:Int) }]++rows (ks.take i)))∧Fr (RS lo hi v) w wr ∧
   (∀k,v1.ownBlock=some k→v.ownBlock=some k∨w.heap.size≤k)∧(∃l,lo≤l∧Sps wr l hi b (Value.slice x ks.length cp).ownBlock (bs.drop i) (ks.drop i))∧∀g,x=some ⟨g,0,none⟩→∀j y,bs[j]? = some y→wr.cell? ⟨g,j,none⟩=some (ptrV y)))
 case atStart =>
  refine⟨0,_,rfl,rfl,rfl,?_,hf3,hat3',⟨lo,Nat.le_refl _,hkids3⟩,hcell3⟩
  simpa[rows,nvals,nodec]using hown3
 case round =>
  obtain⟨i,v1,rfl,rfl,hki,hq⟩:=hrel
  obtain⟨hown,hf,hat,⟨l,hll,hsp⟩,hcell⟩:=hq.out
  have hbw:=hf.size
  rcases Nat.lt_or_ge i ks.length with hik|hik
  ·obtain⟨t,ht⟩:∃t,ks[i]? = some t:=⟨ks[i],by simp[hik]⟩
   have hdk:ks.drop i=t::ks.drop (i+1):=by
    rw[List.drop_eq_getElem_cons hik]
    congr 1
    rw[List.getElem?_eq_getElem hik]at ht
    exact Option.some.inj ht
   rw[hdk]at hsp
   simp only[Sps]at hsp
   obtain⟨y,ys,l1,h1,hdb,a1,a2,a3,a4,a5,a6,a7⟩:=hsp
   have hy:bs[i]? = some y:=by
    have:=congrArg List.head? hdb
    simpa using this
   have hys:bs.drop (i+1)=ys:=by
    have:=congrArg List.tail hdb
    simpa using this
   obtain⟨g,rfl,hgh⟩:=hx (by omega)
   have hci:=hcell g rfl i y hy
   simp only[ptrV]at hci
   have HC:=Lib.hid hcell
   clear hcell
   have hx0:(0:Int)≤(i:Int):=Int.natCast_nonneg i
   have hxi:(i:Int)<ks.length:=by omega
   have hr1:=rows_take_succ ks i t ht
   have hr2:=rows_length ks (i+1)
   have hgo:∀k,v1.ownBlock=some k→base≤k:=fun k e=>(hown.lt k e).1
   have hLl:(L++[({ n with kids:=(ks.length:Int) }:Ck.Node)]++rows (ks.take i)).length=L.length+1+(rows (ks.take i)).length:=by simp only[List.length_append,List.length_cons,List.length_nil,Nat.zero_add]
   have c1:=ih t (List.mem_of_getElem? ht) wr l1 h1 y base v1 (L++[{ n with kids:=(ks.length:Int) }]++rows (ks.take i)) a6 (by omega) (by omega) (by rw[hLl];exact hown) (by rw[hr1]at hr2;simp only[List.length_append,List.length_cons,List.length_nil]at hr2 ⊢;omega)
   have hkb0:ks.length≤1000000000:=by have:=rows_ge ks;omega
   go_wp2_with (go_at_call 26;refine c1.mono ?_;rintro e w4 ⟨v4,rfl,hown4,hf4,hat4⟩)
   have hkb:=rows_ge ks
   have hkk:(ks.length-(i+1))+(i+1)=ks.length:=by omega
   have hkl:ks.length-(i+1)<gk:=by omega
   go_roundg (ks.length-(i+1))
   case measure=>exact hkl
   case rel =>
    refine⟨i+1,_,rfl,by go_num,hkk,?_,?_,?_,⟨h1,by omega,?_⟩,?_⟩
    ·rw[hr1]
     have hLl4:(L++[({ n with kids:=(ks.length:Int) }:Ck.Node)]++rows (ks.take i)++t.row).length=L.length+1+(rows (ks.take i)++t.row).length:=by simp only[List.length_append,List.length_cons,List.length_nil,Nat.zero_add,Nat.add_assoc]
     rw[hLl4,List.append_assoc]at hown4
     exact hown4
    ·refine hf.then hf4 (fun k hk=>?_)
     rcases mem_RS.1 hk with h2|h2
     ·exact .inl (mem_RS.2 (.inl (by omega)))
     ·rcases hat k h2 with h3|h3
      ·exact .inl (mem_RS.2 (.inr h3))
      ·exact .inr h3
    ·intro k e
     rcases hat4 k e with h2|h2
     ·exact hat k h2
     ·exact .inr (by omega)
    ·rw[hys]
     exact a7.keep (fun k k1 k2=>hf4.block k (by omega) (fun hm=>by
      rcases mem_RS.1 hm with h2|h2
      ·omega
      ·have:=hgo k h2;omega)) (Nat.le_refl _) (Nat.le_refl _)
    ·intro g2 hg2 j y2 hy2
     cases hg2
     refine hf4.cell (HC.out g rfl j y2 hy2) (fun hm=>?_)
     rcases mem_RS.1 hm with h2|h2
     ·have:=a5 g rfl;simp at h2;omega
     ·have:=hgo g h2;omega
  ·have hie:i=ks.length:=by omega
   subst hie
   have hxi:¬((ks.length:Int)<ks.length):=by omega
   go_wp2
   go_ret
   refine⟨v1,rfl,?_,hf,hat⟩
   rw[List.take_length]at hown
   simpa[Tree.row,Nat.add_assoc,Nat.add_comm,Nat.add_left_comm]using hown
theorem row_any:∀(m:Nat) (T:Tree),SizeOf.sizeOf T≤m→RowAny T
 | 0,.mk n ks,h=>by simp at h
 | m+1,.mk n ks,h=>row_step n ks fun t ht=>row_any m t (by
   have:=List.sizeOf_lt_of_mem ht
   simp at h;omega)
@[go_sem] theorem assert_flt (v:Value) (w:World):(Instr.typeAssert (.iface 26 v) 20 26 true).run Tryz.prog w=.ok (.tuple #[v,.bool true]) w:=by kernel_rfl
theorem parse_idle (p q:Nat) (w:World) :
  CallsD Tryz.prog 23 #[.pointer (some ⟨p,0,none⟩),.pointer (some ⟨q,0,none⟩)] .returning w fun e u' w'=>e=.returned (.tuple #[])∧u'=.returning∧w'=w:=by
 refine callsD_of_wpS Tryz.func23 rfl fun c₀ cs hu=>?_
 apply wpS_seq
 apply wpS_region
 simp[wpOpsS,go_sem,recoverD,hu,Tryz.ntmps23,Exit.thenS]
 refine wpS_of_wp ?_
 simp only[Array.replicate_succ,Array.replicate_zero,List.push_toArray,List.append_toArray,List.nil_append,List.cons_append,List.setIfInBounds_toArray,List.set_cons_zero,List.set_cons_succ]
 go_wp2
 cases c₀
 simp_all[bodyPostS,results,Tryz.results23]
theorem parse_catch (p q:Nat) (f:Flt) (lv:Value) (fv:Array Value) (older:List PanicEntry) (w:World) (hp:Blk w p #[lv] 23) (hq:Blk w q #[.int .i64 0,.int .i64 0] 26) (hpq:p≠q) :
  CallsD Tryz.prog 23 #[.pointer (some ⟨p,0,none⟩),.pointer (some ⟨q,0,none⟩)] (.panicking ({ v:=.iface 26 (.agg #[.int .i64 f.code,.int .i64 f.at']),recovered:=false }::older)) w fun e u' w' =>
   e=.returned (.tuple #[])∧u'=.panicking ({ v:=.iface 26 (.agg #[.int .i64 f.code,.int .i64 f.at']),recovered:=true }::older) ∧
   Blk w' p #[.slice none 0 0] 23∧Blk w' q #[.int .i64 f.code,.int .i64 f.at'] 26∧Fr [p,q] w w':=by
 have hqp:q≠p:=fun e=>hpq e.symm
 obtain⟨kc,kz,kset,kb⟩:=hp.rules
 obtain⟨rc,rz,rset,rb⟩:=hq.rules
 have kb':∀k,p<w.heap.size+k:=fun k=>by omega
 have rb':∀k,q<w.heap.size+k:=fun k=>by omega
 refine callsD_of_wpS Tryz.func23 rfl fun c₀ cs hu=>?_
 apply wpS_seq
 apply wpS_region
 simp[wpOpsS,go_sem,recoverD,hu,Tryz.ntmps23,Exit.thenS]
 refine wpS_of_wp ?_
 simp only[Array.replicate_succ,Array.replicate_zero,List.push_toArray,List.append_toArray,List.nil_append,List.cons_append,List.setIfInBounds_toArray,List.set_cons_zero,List.set_cons_succ]
 go_wp2
 go_region
 all_goals go_wp2
 have h1:Blk ((Ck.blk (Ck.blk w q #[.int .i64 f.code,.int .i64 f.at'] 26) p #[.slice none 0 0] 23).alloc (.cells #[.int .i64 f.code,.int .i64 f.at'] 26)).drew p #[.slice none 0 0] 23:=(Blk.blk (by rw[blk_size];exact kb)).alloc _
 have h2:Blk ((Ck.blk (Ck.blk w q #[.int .i64 f.code,.int .i64 f.at'] 26) p #[.slice none 0 0] 23).alloc (.cells #[.int .i64 f.code,.int .i64 f.at'] 26)).drew q #[.int .i64 f.code,.int .i64 f.at'] 26:=(Blk.blk_other (Blk.blk rb) hqp).alloc _
 have h3:Fr [p,q] w ((Ck.blk (Ck.blk w q #[.int .i64 f.code,.int .i64 f.at'] 26) p #[.slice none 0 0] 23).alloc (.cells #[.int .i64 f.code,.int .i64 f.at'] 26)).drew:=((((Fr.refl _ _).blk (.inl (by simp)) _ _).blk (.inl (by simp)) _ _).alloc _).drew
 simp[bodyPostS,results,Tryz.results23,h1,h2,h3]
theorem run_makeFunc (fn:Fn) (first cap:Array Value) (w:World):(Instr.makeFunc fn first cap).run Tryz.prog w=.ok (.func fn first cap) w:=rfl
def ParseOut (w:World) (n:Nat) (s:Bytes) (e:Ending) (w':World):Prop :=
 ∃l f v,parseWith n s=some (l,f)∧e=.returned (.tuple #[v,.agg #[.int .i64 f.code,.int .i64 f.at']])∧w'.ownsRow w.heap.size 40 6 v l.length (nvals l)∧Fr [] w w'
theorem RS_nil {lo hi k:Nat} (h:k∈RS lo hi (.slice none 0 0)):lo≤k∧k<hi:=by
 rcases mem_RS.1 h with h1|h1
 ·exact h1
 ·simp[Value.ownBlock]at h1
theorem PSt.ts_zero (S:PSt):S.ts 0=annot S.toks 0:=by simp[PSt.ts]
theorem parse_any (s:Bytes) (w:World) (hV:Vars w) (n:Nat) (hn:parseWith n s≠none) (hs:s.length≤140737488351232) (hsz:∀l f,parseWith n s=some (l,f)→l.length≤1000000000) :
  Calls Tryz.prog 14 #[.string ⟨s.toArray⟩] w (ParseOut w n s):=by
 have hmf:=run_makeFunc
 have hb:=begin_any s ((w.alloc (.cells #[.slice none 0 0] 23)).alloc (.cells #[.int .i64 0,.int .i64 0] 26)) (hV.fr (((Fr.refl [] _).alloc _).alloc _) (by simp)) hs
 have hp0:Blk ((w.alloc (.cells #[.slice none 0 0] 23)).alloc (.cells #[.int .i64 0,.int .i64 0] 26)) w.heap.size #[.slice none 0 0] 23:=(Blk.new w _ _).alloc _
 have hq0:Blk ((w.alloc (.cells #[.slice none 0 0] 23)).alloc (.cells #[.int .i64 0,.int .i64 0] 26)) (w.heap.size+1) #[.int .i64 0,.int .i64 0] 26:=by
  have:=Blk.new (w.alloc (.cells #[.slice none 0 0] 23)) #[.int .i64 0,.int .i64 0] 26
  simpa using this
 have hF0:Fr [] w ((w.alloc (.cells #[.slice none 0 0] 23)).alloc (.cells #[.int .i64 0,.int .i64 0] 26)):=((Fr.refl _ _).alloc _).alloc _
 cases hm:pProgram (lexAll s).2 n (annot (lexAll s).1 0) with
 | none=>rw[parseWith,hm]at hn;exact absurd rfl hn
 | some R =>
  have hP:∀(S:PSt) (W:World),S.toks=(lexAll s).1→S.F=(lexAll s).2→PS S 0 W→Calls Tryz.prog 25 #[.pointer (some ⟨S.bp,0,none⟩)] W (OutT S W W.heap.size R):=fun S W h1 h2 hW=>by
   refine pProgram_any S n 0 W R hW ?_
   rw[S.ts_zero,h1,h2];exact hm
  cases R with
  | error f =>
   have HP:Hid (parseWith n s=some ([],f)):=by show _=_;rw[parseWith,hm]
   clear hm hn hsz
   go_enter_defers Tryz.func14,Tryz.ntmps14
   go_wp2_with (first|(go_at_call 24;refine hb.mono ?_;rintro e w1 ⟨rfl,hBI⟩;obtain⟨S,e1,e2,e3,hps,hf1⟩:=PS.of_begin hBI;have hc:=hP S w1 e1 e2 hps;rw[e3]at hc;simp only[World.size_alloc]at hc)|(go_at_call 25;refine hc.mono ?_;rintro e w2 ⟨rfl,hf2⟩))
   have hp2:=(hp0.fr hf1 (by simp)).fr hf2 (by rw[e3];simp;omega)
   have hq2:=(hq0.fr hf1 (by simp)).fr hf2 (by rw[e3];simp)
   refine leaves_cons (f:=23) (args:=#[.pointer (some ⟨w.heap.size,0,none⟩),.pointer (some ⟨w.heap.size+1,0,none⟩)]) (by simp) (by simp[go_sem]) ?_
   refine(parse_catch w.heap.size (w.heap.size+1) f _ #[] [] w2 hp2 hq2 (by omega)).mono ?_
   rintro e u' w3 ⟨rfl,rfl,hp3,hq3,hf3⟩
   obtain⟨pc,pz,pset,pb⟩:=hp3.rules
   obtain⟨qc,qz,qset,qb⟩:=hq3.rules
   have hF:Fr [] w w3:=((hF0.trans hf1).then hf2 (by rw[e3];simp;omega)).then hf3 (by simp)
   have hout:ParseOut w n s (.returned (.tuple #[.slice none 0 0,.agg #[.int .i64 f.code,.int .i64 f.at']])) w3:=⟨[],f,_,HP.out,rfl,⟨rfl,.inl ⟨rfl,rfl⟩⟩,hF⟩
   simp[Leaves,settle,results,Tryz.results14,go_sem,pc,qc]
   exact hout
  | ok p =>
   obtain⟨T,ts'⟩:=p
   have HP:parseWith n s=some (T.row,⟨0,0⟩):=by rw[parseWith,hm]
   have hlen:=hsz _ _ HP
   have HP:=Lib.hid HP
   clear hm hn hsz
   go_enter_defers Tryz.func14,Tryz.ntmps14
   go_wp2_with (first|(go_at_call 24;refine hb.mono ?_;rintro e w1 ⟨rfl,hBI⟩;obtain⟨S,e1,e2,e3,hps,hf1⟩:=PS.of_begin hBI;have hc:=hP S w1 e1 e2 hps;rw[e3]at hc;simp only[World.size_alloc]at hc)|(go_at_call 25;refine hc.mono ?_;rintro e w2 ⟨b2,a2,rfl,rfl,hps2,hf2,hs2⟩;have hp2:=(hp0.fr hf1 (by simp)).fr hf2 (by rw[e3];simp;omega);have hq2:=(hq0.fr hf1 (by simp)).fr hf2 (by rw[e3];simp);have hw1:=hf1.size;simp only[World.size_alloc]at hw1)|(go_at_call 26;refine(row_any _ T (Nat.le_refl _) w2 _ _ b2 w2.heap.size (.slice none 0 0) [] hs2 (Nat.le_refl _) (Nat.le_refl _) ⟨rfl,.inl ⟨rfl,rfl⟩⟩ (by simpa using hlen)).mono ?_;rintro e w3 ⟨v3,rfl,hown3,hf3,hat3⟩;have hv3:∃p m q,v3=.slice p m q:=(by rcases hown3.2 with⟨rfl,_⟩|⟨g,cap,cur,rfl,_⟩<;>exact⟨_,_,_,rfl⟩);obtain⟨x3,m3,c3,rfl⟩:=hv3;have hp3:=hp2.fr hf3 (fun hm=>by have:=RS_nil hm;omega);have hq3:=hq2.fr hf3 (fun hm=>by have:=RS_nil hm;omega);obtain⟨pc,pz,pset,pb⟩:=hp3.rules;obtain⟨qc,qz,qset,qb⟩:=hq3.rules))
   have hF:Fr [] w (Ck.blk (Ck.blk w3 (w.heap.size+1) #[.int .i64 0,.int .i64 0] 26) w.heap.size #[.slice x3 m3 c3] 23) :=
    ((((hF0.trans hf1).then hf2 (by rw[e3];simp;omega)).then hf3 (fun k hk=>.inr (by have:=RS_nil hk;omega))).blk (.inr (by omega)) _ _).blk (.inr (Nat.le_refl _)) _ _
   have hw2:=hf2.size
   have hO:(Ck.blk (Ck.blk w3 (w.heap.size+1) #[.int .i64 0,.int .i64 0] 26) w.heap.size #[.slice x3 m3 c3] 23).ownsRow w.heap.size 40 6 (.slice x3 m3 c3) T.row.length (nvals T.row) :=
    ownsRow_base (owns_blk (owns_blk (by simpa using hown3) (by omega)) (by omega)) (by omega)
   have hpF:Blk (Ck.blk (Ck.blk w3 (w.heap.size+1) #[.int .i64 0,.int .i64 0] 26) w.heap.size #[.slice x3 m3 c3] 23) w.heap.size #[.slice x3 m3 c3] 23:=Blk.blk (by rw[blk_size];exact pb)
   have hqF:Blk (Ck.blk (Ck.blk w3 (w.heap.size+1) #[.int .i64 0,.int .i64 0] 26) w.heap.size #[.slice x3 m3 c3] 23) (w.heap.size+1) #[.int .i64 0,.int .i64 0] 26:=Blk.blk_other (Blk.blk qb) (by omega)
   obtain⟨W4,hW4⟩:∃X,X=Ck.blk (Ck.blk w3 (w.heap.size+1) #[.int .i64 0,.int .i64 0] 26) w.heap.size #[.slice x3 m3 c3] 23:=⟨_,rfl⟩
   rw[←hW4]at hF hO hpF hqF ⊢
   clear hW4
   obtain⟨uc,uz,uset,ub⟩:=hpF.rules
   obtain⟨vc,vz,vset,vb⟩:=hqF.rules
   refine leaves_cons (f:=23) (args:=#[.pointer (some ⟨w.heap.size,0,none⟩),.pointer (some ⟨w.heap.size+1,0,none⟩)]) (by simp) (by simp[go_sem]) ?_
   refine(parse_idle w.heap.size (w.heap.size+1) W4).mono ?_
   rintro e u' w5 ⟨rfl,rfl,rfl⟩
   have hout:ParseOut w n s (.returned (.tuple #[.slice x3 m3 c3,.agg #[.int .i64 0,.int .i64 0]])) w5:=⟨T.row,⟨0,0⟩,_,HP.out,rfl,hO,hF⟩
   simp[Leaves,settle,results,Tryz.results14,go_sem,uc,vc]
   exact hout
theorem Parse_any (s:Bytes) (w:World) (hV:Vars w) (hs:s.length≤140737488351232) :
  Calls Tryz.prog 14 #[.string ⟨s.toArray⟩] w fun e w'=>∃v,e=.returned (.tuple #[v,.agg #[.int .i64 (parse s).2.code,.int .i64 (parse s).2.at']])∧w'.ownsRow w.heap.size 40 6 v (parse s).1.length (nvals (parse s).1)∧Fr [] w w':=by
 refine(parse_any s w hV (fuel s) (parse_some s) hs (fun l f h=>?_)).mono ?_
 ·have:=parse_size s _ l f h
  have:=lexAll_count s
  omega
 ·rintro e w' ⟨l,f,v,h1,rfl,h3,h4⟩
  have h1:(l,f)=parse s:=by rw[parse_eq s]at h1;exact(Option.some.inj h1).symm
  rw[←h1]
  exact⟨v,rfl,h3,h4⟩
end Go.Proofs.YtoomapkcoibmhaaGreatDoor
end
