/- A part of the proof. -/
import Derived.Test.YtoomapkcoibmhaaGreatDoorQ16
set_option maxRecDepth 100000
set_option maxHeartbeats 12800000
set_option linter.all false
section
open Go Go.Proofs Go.RowKit Go.Shelf Ck
namespace Go.Proofs.YtoomapkcoibmhaaGreatDoor
theorem OZ {S:jf} {r:Rec} (dO:iU 154 S r.expr) (ihb:iU 73 S r.block):EY S (zD S.F r):=by
 intro l v a w res hl h hm0;have hbp:=h.blk.lt;obtain⟨i0,hi,hz0,hz1,hz2⟩:=info_parts Tryz.infoSprout
 unfold zD at hm0;obtain⟨e,hm1,rfl⟩|⟨t,xg,hm1,hm⟩:=bind_some hm0
 ·have hvp:∃p,v=.pointer p:=by
   cases l with
   | none=>exact⟨_,hl⟩
   | some l=>obtain⟨bt,rfl,_⟩:=hl;exact⟨_,rfl⟩
  obtain⟨p,rfl⟩:=hvp
  go_enter Tryz.func151,Tryz.ntmps151
  go_wp2_with (go_at_call 42;refine(kX h hm1).mono ?_;rintro e w1 ⟨rfl,hf1⟩)
  exact⟨rfl,rfl,hf1⟩
 have c1:=gy h hm1;clear hm1 hm0;cases hw:t.text==[119,104,105,108,101]
 ·simp only[hw,Bool.false_eq_true,if_false,if_true]at hm;cases l with
  | none =>
   obtain rfl:v=.pointer none:=hl;obtain⟨e,hm2,rfl⟩|⟨vt,tL,hm2,hm⟩:=bind_some hm
   ·go_enter Tryz.func151,Tryz.ntmps151
    go_wp2_with (go_at_call 42;refine(c1).mono ?_;rintro e w1 ⟨rfl,a1,rfl,aA,hf1⟩;clear c1;obtain⟨tc,tz,jX,tb⟩:=(au.new w1 #[.int .i64 t.kind,.int .i64 t.at',.string ⟨t.text.toArray⟩,.int .i64 t.int,.int .u64 t.bits] 82).rules;skip)
    go_region_dies
    all_goals (go_at_call 42;refine(kX (aA.fr ((Fr.refl [] _).alloc (aO t)).drew) hm2).mono ?_;rintro e w2 ⟨rfl,hf2⟩)
    all_goals exact⟨rfl,rfl,((hf1.alloc (aO t)).drew).trans hf2⟩
   go_enter Tryz.func151,Tryz.ntmps151
   go_wp2_with (go_at_call 42;refine(c1).mono ?_;rintro e w1 ⟨rfl,a1,rfl,aA,hf1⟩;clear c1;obtain⟨tc,tz,jX,tb⟩:=(au.new w1 #[.int .i64 t.kind,.int .i64 t.at',.string ⟨t.text.toArray⟩,.int .i64 t.int,.int .u64 t.bits] 82).rules;skip)
   have O1:au (w1.alloc (aO t)).drew w1.heap.size #[.int .i64 t.kind,.int .i64 t.at',.string ⟨t.text.toArray⟩,.int .i64 t.int,.int .u64 t.bits] 82:=au.new w1 _ _;have hw1:=hf1.size
   go_region_held2 (fun X=>X.cell? ⟨w1.heap.size,1,none⟩=some (.int .i64 t.at')) (first|go_keep|(rw[Vt];rfl)) (first|(go_at_call 42;refine(gy (aA.fr ((Fr.refl [] _).alloc (aO t)).drew) hm2).mono ?_;rintro e w2 ⟨rfl,a2,rfl,aG,hf2⟩;clear hm2;obtain⟨Vt,tz2,O4,tb2⟩:=(O1.fr hf2 (by simp;omega)).rules)|(go_at_call 39;refine(aK _ _ _ _ _ ⟨_,_,_,rfl⟩).mono ?_;rintro e w9 ⟨rfl,rfl⟩))
   obtain⟨c,hc⟩:∃c,Hid (c=w2.heap.size):=⟨_,rfl⟩
   obtain⟨W0,hW0⟩:∃X,X=w2.alloc (.cells (aj ⟨11,t.at',0,vt.text,0,0⟩ 0 (.slice none 0 0)) 90):=⟨_,rfl⟩
   have hfX:Fr [S.bp] w w2:=((hf1.alloc (aO t)).drew).trans hf2;have hw2:=hfX.size;have hG:=Gr.new w2 w.heap.size ⟨11,t.at',0,vt.text,0,0⟩ hw2;have bg:=aG.fr ((Fr.refl [] _).alloc (.cells (aj ⟨11,t.at',0,vt.text,0,0⟩ 0 (.slice none 0 0)) 90));have hf0:=hfX.alloc (.cells (aj ⟨11,t.at',0,vt.text,0,0⟩ 0 (.slice none 0 0)) 90);rw[←hW0]at hG bg hf0
   simp only[aj]at hW0;rw[←hW0];rw[←hc.out]at hG ⊢
   clear hW0 hc aA hf1 hw1 tc tz jX tb O1 aG hf2 Vt tz2 O4 tb2 hfX hw2;obtain⟨e,dH,rfl⟩|⟨u3,wR,dH,hm⟩:=bind_some hm
   ·go_wp2_with (go_at_call 43;refine(gQ bg dH).mono ?_;rintro e w3 ⟨rfl,hf3⟩)
    exact⟨rfl,rfl,hf0.trans hf3⟩
   have hbw:=hf0.size
   go_wp2_with (go_at_call 43;refine(dZ bg dH).mono ?_;rintro e w3 ⟨rfl,a3,rfl,bY,hf3⟩;clear dH)
   replace hG:=hG.fr hf3 (by simp;omega);replace bg:=bY;replace hf0:=hf0.trans hf3;clear hbw;obtain⟨bs,hbs⟩:∃bs,Hid (bs=([]:List Nat)):=⟨_,rfl⟩
   obtain⟨vk,hvk⟩:∃vk:Value,Hid (vk=.slice none 0 0):=⟨_,rfl⟩
   rw[←hbs.out,←hvk.out]at hG
   clear hbs hvk;obtain⟨ks,hks⟩:∃ks,Hid (ks=([]:List Tree)):=⟨_,rfl⟩
   have hkl:ks.length≤8:=by rw[hks.out];simp
   rw[←hks.out]at hG
   have hbw:=hf0.size;obtain⟨kc,kz,aH,kb⟩:=hG.blk.rules
   simp only[aj]at kc aH;obtain⟨e,iV,rfl⟩|⟨E,Jy,iV,hm⟩:=bind_some hm
   ·go_region_dies
    all_goals (go_at_call 154;refine(dO _ _ _ (bg.fr (Fr.refl [] _).drew) iV).mono ?_;rintro e nu ⟨rfl,dx⟩)
    all_goals exact⟨rfl,rfl,(hf0.drew).trans dx⟩
   have HM:=Lib.hid hm;clear hm
   go_cut [] (fun W=>Hid (∃bs vk a,Jy=S.ts a∧PS S a W∧Fr [S.bp] w W∧Gr W w.heap.size c ⟨11,t.at',0,vt.text,0,0⟩ bs [E] vk))
   case first =>
    go_region_law (first|(refine step_append_lies _ rfl _ _ 88 rfl (c+1) 55 i0 (.pointer none) 1 8 Tryz.underlying88 hi hz0 hz1 hz2 rfl (by decide) vk ks.length (ptrs bs) rfl (by exact aF dU.row ((Fr.refl [] _).alloc _) (by simp)) ⟨nu.heap.size,0,none⟩ 1 1 [cZ qW] rfl rfl (World.news_of_block (au.new _ _ _)) (by simp[Value.oneCell',cZ]) (by omega) (by simp[maxLen];omega) (by omega) (by have:=dU.blk.lt;simp;omega) _ rfl ?_;intro g' cap' w8 dw fO ig lI;obtain⟨qc,qz,bS,qb⟩:=((dU.blk.alloc _).grown fO (fun e=>by have:=(dU.row.lt _ e).1;omega)).rules;simp only[aj]at qc bS)|(go_simp;go_at_call 154;refine(dO _ _ _ (bg.fr (Fr.refl [] _).drew) iV).mono ?_;rintro e nu ⟨qW,a40,rfl,rfl,gF,dx,lJ⟩;have dU:=(hG.fr (Fr.refl [] _).drew (by simp)).fr dx (by simp;omega);obtain⟨oC,zS,gI,zT⟩:=dU.blk.rules;simp only[aj]at oC gI;have zU:=dx.size))
    all_goals
     go_wp2
     go_meet
     case rel =>
      have hK:Kids nu w3.heap.size [qW] [E]:=Kids.one (show Sp nu w3.heap.size nu.heap.size qW E from lJ) (Nat.le_refl _);obtain⟨q1,q2,q3⟩:=Gr.nG h hG hf0 (show Fr [S.bp] w3 nu from(Fr.refl _ _).drew.trans dx) gF hK dw fO ig
      rw[hks.out]at q1 q2 q3
      exact⟨_,_,a40,rfl,by simpa[aj,hks.out]using q1,by simpa[aj,hks.out]using q2,by simpa[aj,hks.out]using q3⟩
   case rest =>
   clear hG bg hf0 hks hkl kc kz aH kb hbw iV bY hf3;obtain⟨bs,vk,a,hts,bg,hf0,hG⟩:=hcut.out
   clear hcut;subst hts;have hm:=HM.out;clear HM;obtain⟨e,yC,rfl⟩|⟨u5,ts5,yC,hm⟩:=bind_some hm
   ·go_wp2_with (go_at_call 43;refine(gQ bg yC).mono ?_;rintro e w5 ⟨rfl,fF⟩)
    exact⟨rfl,rfl,hf0.trans fF⟩
   have hbw:=hf0.size
   go_wp2_with (go_at_call 43;refine(dZ bg yC).mono ?_;rintro e w5 ⟨rfl,a5,rfl,ng,fF⟩;clear yC)
   replace hG:=hG.fr fF (by simp;omega);replace bg:=ng;replace hf0:=hf0.trans fF;clear hbw;obtain⟨ks,hks⟩:∃ks,Hid (ks=([E]:List Tree)):=⟨_,rfl⟩
   have hkl:ks.length≤8:=by rw[hks.out];simp
   rw[←hks.out]at hG
   have hbw:=hf0.size;obtain⟨kc,kz,aH,kb⟩:=hG.blk.rules
   simp only[aj]at kc aH;obtain⟨e,zR,rfl⟩|⟨G,Z8,zR,hm⟩:=bind_some hm
   ·go_region_dies
    all_goals (go_at_call 154;refine(dO _ _ _ (bg.fr (Fr.refl [] _).drew) zR).mono ?_;rintro e nu ⟨rfl,dx⟩)
    all_goals exact⟨rfl,rfl,(hf0.drew).trans dx⟩
   obtain⟨e,TR,rfl⟩|⟨B,ts7,TR,hm⟩:=bind_some hm
   ·go_region_law (first|(refine step_append_lies _ rfl _ _ 88 rfl (c+1) 55 i0 (.pointer none) 1 8 Tryz.underlying88 hi hz0 hz1 hz2 rfl (by decide) vk ks.length (ptrs bs) rfl (by exact aF gJ.row ((Fr.refl [] _).alloc _) (by simp)) ⟨EZ.heap.size,0,none⟩ 2 2 [cZ qW,cZ E5] rfl rfl (World.news_of_block (au.new _ _ _)) (by simp[Value.oneCell',cZ]) (by omega) (by simp[maxLen];omega) (by omega) (by have:=gJ.blk.lt;simp;omega) _ rfl ?_;intro g' cap' w8 dw fO ig lI;obtain⟨qc,qz,bS,qb⟩:=((gJ.blk.alloc _).grown fO (fun e=>by have:=(gJ.row.lt _ e).1;omega)).rules;simp only[aj]at qc bS)|(go_simp;go_at_call 154;refine(dO _ _ _ (bg.fr (Fr.refl [] _).drew) zR).mono ?_;rintro e nu ⟨qW,a40,rfl,rfl,gF,dx,lJ⟩;have dU:=(hG.fr (Fr.refl [] _).drew (by simp)).fr dx (by simp;omega);obtain⟨oC,zS,gI,zT⟩:=dU.blk.rules;simp only[aj]at oC gI;have zU:=dx.size)|(go_simp;go_at_call 73;refine(Calls.dead (ihb _ _ _ gF TR) default []).mono ?_;rintro e EZ (⟨rfl,iW⟩|⟨hF,E5,a41,rfl,hts,r9,iW,zV⟩);exact⟨rfl,rfl,((hf0.drew).trans dx).trans iW⟩;have gJ:=dU.fr iW (by simp;omega);obtain⟨uM,JA,kE,JB⟩:=gJ.blk.rules;simp only[aj]at uM kE;have JC:=iW.size))
    all_goals exact False.elim hF.out
   rw[aZ]at hm
   simp only[Option.some.injEq]at hm;subst hm
   go_region_law (first|(refine step_append_lies _ rfl _ _ 88 rfl (c+1) 55 i0 (.pointer none) 1 8 Tryz.underlying88 hi hz0 hz1 hz2 rfl (by decide) vk ks.length (ptrs bs) rfl (by exact aF gJ.row ((Fr.refl [] _).alloc _) (by simp)) ⟨EZ.heap.size,0,none⟩ 2 2 [cZ qW,cZ E5] rfl rfl (World.news_of_block (au.new _ _ _)) (by simp[Value.oneCell',cZ]) (by omega) (by simp[maxLen];omega) (by omega) (by have:=gJ.blk.lt;simp;omega) _ rfl ?_;intro g' cap' w8 dw fO ig lI;obtain⟨qc,qz,bS,qb⟩:=((gJ.blk.alloc _).grown fO (fun e=>by have:=(gJ.row.lt _ e).1;omega)).rules;simp only[aj]at qc bS)|(go_simp;go_at_call 154;refine(dO _ _ _ (bg.fr (Fr.refl [] _).drew) zR).mono ?_;rintro e nu ⟨qW,a40,rfl,rfl,gF,dx,lJ⟩;have dU:=(hG.fr (Fr.refl [] _).drew (by simp)).fr dx (by simp;omega);obtain⟨oC,zS,gI,zT⟩:=dU.blk.rules;simp only[aj]at oC gI;have zU:=dx.size)|(go_simp;go_at_call 73;refine(ihb _ _ _ gF TR).mono ?_;rintro e EZ ⟨E5,a41,rfl,rfl,r9,iW,zV⟩;have gJ:=dU.fr iW (by simp;omega);obtain⟨uM,JA,kE,JB⟩:=gJ.blk.rules;simp only[aj]at uM kE;have JC:=iW.size))
   all_goals
    go_wp2;go_ret;have hK:Kids EZ w5.heap.size [qW,E5] [G,B]:=(Kids.one (show Sp nu w5.heap.size nu.heap.size qW G from lJ) (Nat.le_refl _)).snoc iW (by simp;omega) zV;obtain⟨q1,q2,q3⟩:=Gr.nG h hG hf0 ((show Fr [S.bp] w5 nu from(Fr.refl _ _).drew.trans dx).trans iW) r9 hK dw fO ig
    have hs:=q3.sp;rw[hks.out]at q1 q2 hs
    exact⟨c,a41,rfl,rfl,by simpa[aj,hks.out]using q1,by simpa[aj,hks.out]using q2,by simpa[aj,hks.out,leaf]using hs⟩
  | some l =>
   obtain⟨bt,rfl,hB,hbt⟩:=hl
   obtain⟨e,hm2,rfl⟩|⟨vt,tL,hm2,hm⟩:=bind_some hm
   ·go_enter Tryz.func151,Tryz.ntmps151
    go_wp2_with (go_at_call 42;refine(c1).mono ?_;rintro e w1 ⟨rfl,a1,rfl,aA,hf1⟩;clear c1;obtain⟨tc,tz,jX,tb⟩:=(au.new w1 #[.int .i64 t.kind,.int .i64 t.at',.string ⟨t.text.toArray⟩,.int .i64 t.int,.int .u64 t.bits] 82).rules;have hB1:=hB.fr hf1 (by simpa using hbt);obtain⟨lc,lz,pW,lb⟩:=hB1.rules;have lb':∀k,bt<w1.heap.size+k:=(fun k=>by omega))
    go_region_dies
    all_goals (go_at_call 42;refine(kX (aA.fr ((Fr.refl [] _).alloc (aO t)).drew) hm2).mono ?_;rintro e w2 ⟨rfl,hf2⟩)
    all_goals exact⟨rfl,rfl,((hf1.alloc (aO t)).drew).trans hf2⟩
   go_enter Tryz.func151,Tryz.ntmps151
   go_wp2_with (go_at_call 42;refine(c1).mono ?_;rintro e w1 ⟨rfl,a1,rfl,aA,hf1⟩;clear c1;obtain⟨tc,tz,jX,tb⟩:=(au.new w1 #[.int .i64 t.kind,.int .i64 t.at',.string ⟨t.text.toArray⟩,.int .i64 t.int,.int .u64 t.bits] 82).rules;have hB1:=hB.fr hf1 (by simpa using hbt);obtain⟨lc,lz,pW,lb⟩:=hB1.rules;have lb':∀k,bt<w1.heap.size+k:=(fun k=>by omega))
   have O1:au (w1.alloc (aO t)).drew w1.heap.size #[.int .i64 t.kind,.int .i64 t.at',.string ⟨t.text.toArray⟩,.int .i64 t.int,.int .u64 t.bits] 82:=au.new w1 _ _;have hw1:=hf1.size
   go_region_held2 (fun X=>X.cell? ⟨w1.heap.size,1,none⟩=some (.int .i64 t.at')) (first|go_keep|(rw[Vt];rfl)) (first|(go_at_call 42;refine(gy (aA.fr ((Fr.refl [] _).alloc (aO t)).drew) hm2).mono ?_;rintro e w2 ⟨rfl,a2,rfl,aG,hf2⟩;clear hm2;obtain⟨Vt,tz2,O4,tb2⟩:=(O1.fr hf2 (by simp;omega)).rules)|(go_at_call 39;refine(aK _ _ _ _ _ ⟨_,_,_,rfl⟩).mono ?_;rintro e w9 ⟨rfl,rfl⟩))
   obtain⟨c,hc⟩:∃c,Hid (c=w2.heap.size):=⟨_,rfl⟩
   obtain⟨W0,hW0⟩:∃X,X=w2.alloc (.cells (aj ⟨11,t.at',0,vt.text,0,0⟩ 0 (.slice none 0 0)) 90):=⟨_,rfl⟩
   have hfX:Fr [S.bp] w w2:=((hf1.alloc (aO t)).drew).trans hf2;have hw2:=hfX.size;have hG:=Gr.new w2 w.heap.size ⟨11,t.at',0,vt.text,0,0⟩ hw2;have bg:=aG.fr ((Fr.refl [] _).alloc (.cells (aj ⟨11,t.at',0,vt.text,0,0⟩ 0 (.slice none 0 0)) 90));have hf0:=hfX.alloc (.cells (aj ⟨11,t.at',0,vt.text,0,0⟩ 0 (.slice none 0 0)) 90);have hB2:=((show au (w1.alloc (aO t)).drew bt _ _ from hB1.alloc (aO t)).fr hf2 (by simpa using hbt)).alloc (.cells (aj ⟨11,t.at',0,vt.text,0,0⟩ 0 (.slice none 0 0)) 90);rw[←hW0]at hG bg hf0 hB2
   simp only[aj]at hW0;rw[←hW0];rw[←hc.out]at hG ⊢
   clear hW0 hc aA hf1 hw1 tc tz jX tb O1 aG hf2 Vt tz2 O4 tb2 hfX hw2 hB hB1 lc lz pW lb lb';obtain⟨lc,lz,pW,lb⟩:=hB2.rules
   have HM:=Lib.hid hm;clear hm;obtain⟨bs,hbs⟩:∃bs,Hid (bs=([]:List Nat)):=⟨_,rfl⟩
   obtain⟨vk,hvk⟩:∃vk:Value,Hid (vk=.slice none 0 0):=⟨_,rfl⟩
   rw[←hbs.out,←hvk.out]at hG
   clear hbs hvk;obtain⟨ks,hks⟩:∃ks,Hid (ks=([]:List Tree)):=⟨_,rfl⟩
   have hkl:ks.length≤8:=by rw[hks.out];simp
   rw[←hks.out]at hG
   have hbw:=hf0.size;obtain⟨kc,kz,aH,kb⟩:=hG.blk.rules
   simp only[aj]at kc aH;go_wp2
   go_cut [] (fun W=>Hid (∃bs vk,PS S a2 W∧Fr [S.bp] w W∧Gr W w.heap.size c ⟨11,t.at',0,vt.text,0,0⟩ bs [(leaf 12 l.at' l.text [])] vk))
   case first =>
    have lJ:Sp (W0.drew.alloc (.cells #[.int .i64 12,.int .i64 l.at',.int .i64 0,.string ⟨l.text.toArray⟩,.int .i64 0,.int .u64 0,.slice none 0 0] 90)) W0.heap.size (W0.heap.size+1) W0.heap.size (leaf 12 l.at' l.text []):=by simpa[aj,leaf]using pI (W:=W0.drew) (lo:=W0.heap.size) ⟨12,l.at',0,l.text,0,0⟩ (Nat.le_refl _)
    have dx:Fr [] W0 (W0.drew.alloc (.cells #[.int .i64 12,.int .i64 l.at',.int .i64 0,.string ⟨l.text.toArray⟩,.int .i64 0,.int .u64 0,.slice none 0 0] 90)):=(Fr.refl [] W0).drew.alloc _;have dU:=hG.fr dx (by simp);have gF:=bg.fr dx;have zW:(W0.drew.alloc (.cells #[.int .i64 12,.int .i64 l.at',.int .i64 0,.string ⟨l.text.toArray⟩,.int .i64 0,.int .u64 0,.slice none 0 0] 90)).heap.size=W0.heap.size+1:=by simp
    obtain⟨W4,oW⟩:∃X,X=W0.drew.alloc (.cells #[.int .i64 12,.int .i64 l.at',.int .i64 0,.string ⟨l.text.toArray⟩,.int .i64 0,.int .u64 0,.slice none 0 0] 90):=⟨_,rfl⟩
    rw[←oW]at lJ dx dU gF zW
    have HZ:=Lib.hid zW;clear zW;have cn:Calls Tryz.prog 39 #[.int .i64 12,.int .i64 l.at',.string ⟨l.text.toArray⟩,.slice none 0 0] W0.drew fun e w'=>e=.returned (.pointer (some ⟨W0.heap.size,0,none⟩))∧W4=w':=(aK 12 l.at' l.text _ _ ⟨_,_,_,rfl⟩).mono (fun e w' hh=>⟨by simpa using hh.1,by rw[oW];exact hh.2.symm⟩)
    clear oW;obtain⟨rc,rz,bE,rb⟩:=dU.blk.rules
    simp only[aj]at rc bE
    go_region_law (first|(refine step_append_lies _ rfl _ _ 88 rfl (c+1) 55 i0 (.pointer none) 1 8 Tryz.underlying88 hi hz0 hz1 hz2 rfl (by decide) vk ks.length (ptrs bs) rfl (by exact aF dU.row ((Fr.refl [] _).alloc _) (by simp)) ⟨W4.heap.size,0,none⟩ 1 1 [cZ W0.heap.size] rfl rfl (World.news_of_block (au.new _ _ _)) (by simp[Value.oneCell',cZ]) (by omega) (by simp[maxLen];omega) (by omega) (by have:=dU.blk.lt;simp;omega) _ rfl ?_;intro g' cap' w8 dw fO ig lI;obtain⟨qc,qz,bS,qb⟩:=((dU.blk.alloc _).grown fO (fun e=>by have:=(dU.row.lt _ e).1;omega)).rules;simp only[aj]at qc bS)|(go_simp;go_at_call 39;refine cn.mono ?_;rintro e w9 ⟨rfl,rfl⟩))
    all_goals
     go_wp2
     go_meet
     case rel =>
      have hK:Kids W4 W0.heap.size [W0.heap.size] [(leaf 12 l.at' l.text [])]:=Kids.one lJ (by have:=HZ.out;omega);obtain⟨q1,q2,q3⟩:=Gr.nG h hG hf0 dx.nil gF hK dw fO ig
      rw[hks.out]at q1 q2 q3
      exact⟨_,_,by simpa[aj,hks.out]using q1,by simpa[aj,hks.out]using q2,by simpa[aj,hks.out]using q3⟩
   case rest =>
   clear hG bg hf0 hks hkl kc kz aH kb hbw hB2 lc lz pW lb;obtain⟨bs,vk,bg,hf0,hG⟩:=hcut.out
   clear hcut;have hm:=HM.out;clear HM;obtain⟨e,dH,rfl⟩|⟨u3,wR,dH,hm⟩:=bind_some hm
   ·go_wp2_with (go_at_call 43;refine(gQ bg dH).mono ?_;rintro e w3 ⟨rfl,hf3⟩)
    exact⟨rfl,rfl,hf0.trans hf3⟩
   have hbw:=hf0.size
   go_wp2_with (go_at_call 43;refine(dZ bg dH).mono ?_;rintro e w3 ⟨rfl,a3,rfl,bY,hf3⟩;clear dH)
   replace hG:=hG.fr hf3 (by simp;omega);replace bg:=bY;replace hf0:=hf0.trans hf3;clear hbw;obtain⟨ks,hks⟩:∃ks,Hid (ks=([(leaf 12 l.at' l.text [])]:List Tree)):=⟨_,rfl⟩
   have hkl:ks.length≤8:=by rw[hks.out];simp
   rw[←hks.out]at hG
   have hbw:=hf0.size;obtain⟨kc,kz,aH,kb⟩:=hG.blk.rules
   simp only[aj]at kc aH;obtain⟨e,iV,rfl⟩|⟨E,Jy,iV,hm⟩:=bind_some hm
   ·go_region_dies
    all_goals (go_at_call 154;refine(dO _ _ _ (bg.fr (Fr.refl [] _).drew) iV).mono ?_;rintro e nu ⟨rfl,dx⟩)
    all_goals exact⟨rfl,rfl,(hf0.drew).trans dx⟩
   have HM:=Lib.hid hm;clear hm
   go_cut [] (fun W=>Hid (∃bs vk a,Jy=S.ts a∧PS S a W∧Fr [S.bp] w W∧Gr W w.heap.size c ⟨11,t.at',0,vt.text,0,0⟩ bs [(leaf 12 l.at' l.text []),E] vk))
   case first =>
    go_region_law (first|(refine step_append_lies _ rfl _ _ 88 rfl (c+1) 55 i0 (.pointer none) 1 8 Tryz.underlying88 hi hz0 hz1 hz2 rfl (by decide) vk ks.length (ptrs bs) rfl (by exact aF dU.row ((Fr.refl [] _).alloc _) (by simp)) ⟨nu.heap.size,0,none⟩ 1 1 [cZ qW] rfl rfl (World.news_of_block (au.new _ _ _)) (by simp[Value.oneCell',cZ]) (by omega) (by simp[maxLen];omega) (by omega) (by have:=dU.blk.lt;simp;omega) _ rfl ?_;intro g' cap' w8 dw fO ig lI;obtain⟨qc,qz,bS,qb⟩:=((dU.blk.alloc _).grown fO (fun e=>by have:=(dU.row.lt _ e).1;omega)).rules;simp only[aj]at qc bS)|(go_simp;go_at_call 154;refine(dO _ _ _ (bg.fr (Fr.refl [] _).drew) iV).mono ?_;rintro e nu ⟨qW,a40,rfl,rfl,gF,dx,lJ⟩;have dU:=(hG.fr (Fr.refl [] _).drew (by simp)).fr dx (by simp;omega);obtain⟨oC,zS,gI,zT⟩:=dU.blk.rules;simp only[aj]at oC gI;have zU:=dx.size))
    all_goals
     go_wp2
     go_meet
     case rel =>
      have hK:Kids nu w3.heap.size [qW] [E]:=Kids.one (show Sp nu w3.heap.size nu.heap.size qW E from lJ) (Nat.le_refl _);obtain⟨q1,q2,q3⟩:=Gr.nG h hG hf0 (show Fr [S.bp] w3 nu from(Fr.refl _ _).drew.trans dx) gF hK dw fO ig
      rw[hks.out]at q1 q2 q3
      exact⟨_,_,a40,rfl,by simpa[aj,hks.out]using q1,by simpa[aj,hks.out]using q2,by simpa[aj,hks.out]using q3⟩
   case rest =>
   clear hG bg hf0 hks hkl kc kz aH kb hbw iV bY hf3;obtain⟨bs,vk,a,hts,bg,hf0,hG⟩:=hcut.out
   clear hcut;subst hts;have hm:=HM.out;clear HM;obtain⟨e,yC,rfl⟩|⟨u5,ts5,yC,hm⟩:=bind_some hm
   ·go_wp2_with (go_at_call 43;refine(gQ bg yC).mono ?_;rintro e w5 ⟨rfl,fF⟩)
    exact⟨rfl,rfl,hf0.trans fF⟩
   have hbw:=hf0.size
   go_wp2_with (go_at_call 43;refine(dZ bg yC).mono ?_;rintro e w5 ⟨rfl,a5,rfl,ng,fF⟩;clear yC)
   replace hG:=hG.fr fF (by simp;omega);replace bg:=ng;replace hf0:=hf0.trans fF;clear hbw;obtain⟨ks,hks⟩:∃ks,Hid (ks=([(leaf 12 l.at' l.text []),E]:List Tree)):=⟨_,rfl⟩
   have hkl:ks.length≤8:=by rw[hks.out];simp
   rw[←hks.out]at hG
   have hbw:=hf0.size;obtain⟨kc,kz,aH,kb⟩:=hG.blk.rules
   simp only[aj]at kc aH;obtain⟨e,zR,rfl⟩|⟨G,Z8,zR,hm⟩:=bind_some hm
   ·go_region_dies
    all_goals (go_at_call 154;refine(dO _ _ _ (bg.fr (Fr.refl [] _).drew) zR).mono ?_;rintro e nu ⟨rfl,dx⟩)
    all_goals exact⟨rfl,rfl,(hf0.drew).trans dx⟩
   obtain⟨e,TR,rfl⟩|⟨B,ts7,TR,hm⟩:=bind_some hm
   ·go_region_law (first|(refine step_append_lies _ rfl _ _ 88 rfl (c+1) 55 i0 (.pointer none) 1 8 Tryz.underlying88 hi hz0 hz1 hz2 rfl (by decide) vk ks.length (ptrs bs) rfl (by exact aF gJ.row ((Fr.refl [] _).alloc _) (by simp)) ⟨EZ.heap.size,0,none⟩ 2 2 [cZ qW,cZ E5] rfl rfl (World.news_of_block (au.new _ _ _)) (by simp[Value.oneCell',cZ]) (by omega) (by simp[maxLen];omega) (by omega) (by have:=gJ.blk.lt;simp;omega) _ rfl ?_;intro g' cap' w8 dw fO ig lI;obtain⟨qc,qz,bS,qb⟩:=((gJ.blk.alloc _).grown fO (fun e=>by have:=(gJ.row.lt _ e).1;omega)).rules;simp only[aj]at qc bS)|(go_simp;go_at_call 154;refine(dO _ _ _ (bg.fr (Fr.refl [] _).drew) zR).mono ?_;rintro e nu ⟨qW,a40,rfl,rfl,gF,dx,lJ⟩;have dU:=(hG.fr (Fr.refl [] _).drew (by simp)).fr dx (by simp;omega);obtain⟨oC,zS,gI,zT⟩:=dU.blk.rules;simp only[aj]at oC gI;have zU:=dx.size)|(go_simp;go_at_call 73;refine(Calls.dead (ihb _ _ _ gF TR) default []).mono ?_;rintro e EZ (⟨rfl,iW⟩|⟨hF,E5,a41,rfl,hts,r9,iW,zV⟩);exact⟨rfl,rfl,((hf0.drew).trans dx).trans iW⟩;have gJ:=dU.fr iW (by simp;omega);obtain⟨uM,JA,kE,JB⟩:=gJ.blk.rules;simp only[aj]at uM kE;have JC:=iW.size))
    all_goals exact False.elim hF.out
   rw[aZ]at hm
   simp only[Option.some.injEq]at hm;subst hm
   go_region_law (first|(refine step_append_lies _ rfl _ _ 88 rfl (c+1) 55 i0 (.pointer none) 1 8 Tryz.underlying88 hi hz0 hz1 hz2 rfl (by decide) vk ks.length (ptrs bs) rfl (by exact aF gJ.row ((Fr.refl [] _).alloc _) (by simp)) ⟨EZ.heap.size,0,none⟩ 2 2 [cZ qW,cZ E5] rfl rfl (World.news_of_block (au.new _ _ _)) (by simp[Value.oneCell',cZ]) (by omega) (by simp[maxLen];omega) (by omega) (by have:=gJ.blk.lt;simp;omega) _ rfl ?_;intro g' cap' w8 dw fO ig lI;obtain⟨qc,qz,bS,qb⟩:=((gJ.blk.alloc _).grown fO (fun e=>by have:=(gJ.row.lt _ e).1;omega)).rules;simp only[aj]at qc bS)|(go_simp;go_at_call 154;refine(dO _ _ _ (bg.fr (Fr.refl [] _).drew) zR).mono ?_;rintro e nu ⟨qW,a40,rfl,rfl,gF,dx,lJ⟩;have dU:=(hG.fr (Fr.refl [] _).drew (by simp)).fr dx (by simp;omega);obtain⟨oC,zS,gI,zT⟩:=dU.blk.rules;simp only[aj]at oC gI;have zU:=dx.size)|(go_simp;go_at_call 73;refine(ihb _ _ _ gF TR).mono ?_;rintro e EZ ⟨E5,a41,rfl,rfl,r9,iW,zV⟩;have gJ:=dU.fr iW (by simp;omega);obtain⟨uM,JA,kE,JB⟩:=gJ.blk.rules;simp only[aj]at uM kE;have JC:=iW.size))
   all_goals
    go_wp2;go_ret;have hK:Kids EZ w5.heap.size [qW,E5] [G,B]:=(Kids.one (show Sp nu w5.heap.size nu.heap.size qW G from lJ) (Nat.le_refl _)).snoc iW (by simp;omega) zV;obtain⟨q1,q2,q3⟩:=Gr.nG h hG hf0 ((show Fr [S.bp] w5 nu from(Fr.refl _ _).drew.trans dx).trans iW) r9 hK dw fO ig
    have hs:=q3.sp;rw[hks.out]at q1 q2 hs
    exact⟨c,a41,rfl,rfl,by simpa[aj,hks.out]using q1,by simpa[aj,hks.out]using q2,by simpa[aj,hks.out,leaf]using hs⟩
 ·simp only[hw,Bool.false_eq_true,if_false,if_true]at hm;cases l with
  | none =>
   obtain rfl:v=.pointer none:=hl;go_enter Tryz.func151,Tryz.ntmps151
   go_wp2_with (first|(go_at_call 42;refine(c1).mono ?_;rintro e w1 ⟨rfl,a1,rfl,aA,hf1⟩;clear c1;obtain⟨tc,tz,jX,tb⟩:=(au.new w1 #[.int .i64 t.kind,.int .i64 t.at',.string ⟨t.text.toArray⟩,.int .i64 t.int,.int .u64 t.bits] 82).rules;skip)|(go_at_call 39;refine(aK _ _ _ _ _ ⟨_,_,_,rfl⟩).mono ?_;rintro e w9 ⟨rfl,rfl⟩))
   obtain⟨c,hc⟩:∃c,Hid (c=(w1.alloc (aO t)).heap.size):=⟨_,rfl⟩
   obtain⟨W0,hW0⟩:∃X,X=(w1.alloc (aO t)).alloc (.cells (aj ⟨10,t.at',0,[],0,0⟩ 0 (.slice none 0 0)) 90):=⟨_,rfl⟩
   have hw1:=hf1.size;have hG:=Gr.new (w1.alloc (aO t)) w.heap.size ⟨10,t.at',0,[],0,0⟩ (by simp;omega);have bg:=(aA.fr ((Fr.refl [] _).alloc (aO t))).fr ((Fr.refl [] _).alloc (.cells (aj ⟨10,t.at',0,[],0,0⟩ 0 (.slice none 0 0)) 90));have hf0:=(hf1.alloc (aO t)).alloc (.cells (aj ⟨10,t.at',0,[],0,0⟩ 0 (.slice none 0 0)) 90);rw[←hW0]at hG bg hf0
   simp only[aj,aO]at hW0;rw[←hW0];rw[←hc.out]at hG
   have hc':=hc.out;simp only[World.size_alloc]at hc';rw[←hc'];clear hc' hW0 hc aA hf1 hw1 tc tz jX tb;obtain⟨bs,hbs⟩:∃bs,Hid (bs=([]:List Nat)):=⟨_,rfl⟩
   obtain⟨vk,hvk⟩:∃vk:Value,Hid (vk=.slice none 0 0):=⟨_,rfl⟩
   rw[←hbs.out,←hvk.out]at hG
   clear hbs hvk;obtain⟨ks,hks⟩:∃ks,Hid (ks=([]:List Tree)):=⟨_,rfl⟩
   have hkl:ks.length≤8:=by rw[hks.out];simp
   rw[←hks.out]at hG
   have hbw:=hf0.size;obtain⟨kc,kz,aH,kb⟩:=hG.blk.rules
   simp only[aj]at kc aH;obtain⟨e,hm2,rfl⟩|⟨E,tL,hm2,hm⟩:=bind_some hm
   ·go_region_dies
    all_goals (go_at_call 154;refine(dO _ _ _ (bg.fr (Fr.refl [] _).drew) hm2).mono ?_;rintro e nu ⟨rfl,dx⟩)
    all_goals exact⟨rfl,rfl,(hf0.drew).trans dx⟩
   obtain⟨e,dH,rfl⟩|⟨B,wR,dH,hm⟩:=bind_some hm
   ·go_region_law (first|(refine step_append_lies _ rfl _ _ 88 rfl (c+1) 55 i0 (.pointer none) 1 8 Tryz.underlying88 hi hz0 hz1 hz2 rfl (by decide) vk ks.length (ptrs bs) rfl (by exact aF gJ.row ((Fr.refl [] _).alloc _) (by simp)) ⟨EZ.heap.size,0,none⟩ 2 2 [cZ qW,cZ E5] rfl rfl (World.news_of_block (au.new _ _ _)) (by simp[Value.oneCell',cZ]) (by omega) (by simp[maxLen];omega) (by omega) (by have:=gJ.blk.lt;simp;omega) _ rfl ?_;intro g' cap' w8 dw fO ig lI;obtain⟨qc,qz,bS,qb⟩:=((gJ.blk.alloc _).grown fO (fun e=>by have:=(gJ.row.lt _ e).1;omega)).rules;simp only[aj]at qc bS)|(go_simp;go_at_call 154;refine(dO _ _ _ (bg.fr (Fr.refl [] _).drew) hm2).mono ?_;rintro e nu ⟨qW,a40,rfl,rfl,gF,dx,lJ⟩;have dU:=(hG.fr (Fr.refl [] _).drew (by simp)).fr dx (by simp;omega);obtain⟨oC,zS,gI,zT⟩:=dU.blk.rules;simp only[aj]at oC gI;have zU:=dx.size)|(go_simp;go_at_call 73;refine(Calls.dead (ihb _ _ _ gF dH) default []).mono ?_;rintro e EZ (⟨rfl,iW⟩|⟨hF,E5,a41,rfl,hts,r9,iW,zV⟩);exact⟨rfl,rfl,((hf0.drew).trans dx).trans iW⟩;have gJ:=dU.fr iW (by simp;omega);obtain⟨uM,JA,kE,JB⟩:=gJ.blk.rules;simp only[aj]at uM kE;have JC:=iW.size))
    all_goals exact False.elim hF.out
   rw[aZ]at hm
   simp only[Option.some.injEq]at hm;subst hm
   go_region_law (first|(refine step_append_lies _ rfl _ _ 88 rfl (c+1) 55 i0 (.pointer none) 1 8 Tryz.underlying88 hi hz0 hz1 hz2 rfl (by decide) vk ks.length (ptrs bs) rfl (by exact aF gJ.row ((Fr.refl [] _).alloc _) (by simp)) ⟨EZ.heap.size,0,none⟩ 2 2 [cZ qW,cZ E5] rfl rfl (World.news_of_block (au.new _ _ _)) (by simp[Value.oneCell',cZ]) (by omega) (by simp[maxLen];omega) (by omega) (by have:=gJ.blk.lt;simp;omega) _ rfl ?_;intro g' cap' w8 dw fO ig lI;obtain⟨qc,qz,bS,qb⟩:=((gJ.blk.alloc _).grown fO (fun e=>by have:=(gJ.row.lt _ e).1;omega)).rules;simp only[aj]at qc bS)|(go_simp;go_at_call 154;refine(dO _ _ _ (bg.fr (Fr.refl [] _).drew) hm2).mono ?_;rintro e nu ⟨qW,a40,rfl,rfl,gF,dx,lJ⟩;have dU:=(hG.fr (Fr.refl [] _).drew (by simp)).fr dx (by simp;omega);obtain⟨oC,zS,gI,zT⟩:=dU.blk.rules;simp only[aj]at oC gI;have zU:=dx.size)|(go_simp;go_at_call 73;refine(ihb _ _ _ gF dH).mono ?_;rintro e EZ ⟨E5,a41,rfl,rfl,r9,iW,zV⟩;have gJ:=dU.fr iW (by simp;omega);obtain⟨uM,JA,kE,JB⟩:=gJ.blk.rules;simp only[aj]at uM kE;have JC:=iW.size))
   all_goals
    go_wp2;go_ret;have hK:Kids EZ W0.heap.size [qW,E5] [E,B]:=(Kids.one (show Sp nu W0.heap.size nu.heap.size qW E from lJ) (Nat.le_refl _)).snoc iW (by simp;omega) zV;obtain⟨q1,q2,q3⟩:=Gr.nG h hG hf0 ((show Fr [S.bp] W0 nu from(Fr.refl _ _).drew.trans dx).trans iW) r9 hK dw fO ig
    have hs:=q3.sp;rw[hks.out]at q1 q2 hs
    exact⟨c,a41,rfl,rfl,by simpa[aj,hks.out]using q1,by simpa[aj,hks.out]using q2,by simpa[aj,hks.out,leaf]using hs⟩
  | some l =>
   obtain⟨bt,rfl,hB,hbt⟩:=hl
   go_enter Tryz.func151,Tryz.ntmps151
   go_wp2_with (first|(go_at_call 42;refine(c1).mono ?_;rintro e w1 ⟨rfl,a1,rfl,aA,hf1⟩;clear c1;obtain⟨tc,tz,jX,tb⟩:=(au.new w1 #[.int .i64 t.kind,.int .i64 t.at',.string ⟨t.text.toArray⟩,.int .i64 t.int,.int .u64 t.bits] 82).rules;have hB1:=hB.fr hf1 (by simpa using hbt);obtain⟨lc,lz,pW,lb⟩:=hB1.rules;have lb':∀k,bt<w1.heap.size+k:=(fun k=>by omega))|(go_at_call 39;refine(aK _ _ _ _ _ ⟨_,_,_,rfl⟩).mono ?_;rintro e w9 ⟨rfl,rfl⟩))
   obtain⟨c,hc⟩:∃c,Hid (c=(w1.alloc (aO t)).heap.size):=⟨_,rfl⟩
   obtain⟨W0,hW0⟩:∃X,X=(w1.alloc (aO t)).alloc (.cells (aj ⟨10,t.at',0,l.text,0,0⟩ 0 (.slice none 0 0)) 90):=⟨_,rfl⟩
   have hw1:=hf1.size;have hG:=Gr.new (w1.alloc (aO t)) w.heap.size ⟨10,t.at',0,l.text,0,0⟩ (by simp;omega);have bg:=(aA.fr ((Fr.refl [] _).alloc (aO t))).fr ((Fr.refl [] _).alloc (.cells (aj ⟨10,t.at',0,l.text,0,0⟩ 0 (.slice none 0 0)) 90));have hf0:=(hf1.alloc (aO t)).alloc (.cells (aj ⟨10,t.at',0,l.text,0,0⟩ 0 (.slice none 0 0)) 90);rw[←hW0]at hG bg hf0
   simp only[aj,aO]at hW0;rw[←hW0];rw[←hc.out]at hG
   have hc':=hc.out;simp only[World.size_alloc]at hc';rw[←hc'];clear hc' hW0 hc aA hf1 hw1 tc tz jX tb hB hB1 lc lz pW lb lb';obtain⟨bs,hbs⟩:∃bs,Hid (bs=([]:List Nat)):=⟨_,rfl⟩
   obtain⟨vk,hvk⟩:∃vk:Value,Hid (vk=.slice none 0 0):=⟨_,rfl⟩
   rw[←hbs.out,←hvk.out]at hG
   clear hbs hvk;obtain⟨ks,hks⟩:∃ks,Hid (ks=([]:List Tree)):=⟨_,rfl⟩
   have hkl:ks.length≤8:=by rw[hks.out];simp
   rw[←hks.out]at hG
   have hbw:=hf0.size;obtain⟨kc,kz,aH,kb⟩:=hG.blk.rules
   simp only[aj]at kc aH;obtain⟨e,hm2,rfl⟩|⟨E,tL,hm2,hm⟩:=bind_some hm
   ·go_region_dies
    all_goals (go_at_call 154;refine(dO _ _ _ (bg.fr (Fr.refl [] _).drew) hm2).mono ?_;rintro e nu ⟨rfl,dx⟩)
    all_goals exact⟨rfl,rfl,(hf0.drew).trans dx⟩
   obtain⟨e,dH,rfl⟩|⟨B,wR,dH,hm⟩:=bind_some hm
   ·go_region_law (first|(refine step_append_lies _ rfl _ _ 88 rfl (c+1) 55 i0 (.pointer none) 1 8 Tryz.underlying88 hi hz0 hz1 hz2 rfl (by decide) vk ks.length (ptrs bs) rfl (by exact aF gJ.row ((Fr.refl [] _).alloc _) (by simp)) ⟨EZ.heap.size,0,none⟩ 2 2 [cZ qW,cZ E5] rfl rfl (World.news_of_block (au.new _ _ _)) (by simp[Value.oneCell',cZ]) (by omega) (by simp[maxLen];omega) (by omega) (by have:=gJ.blk.lt;simp;omega) _ rfl ?_;intro g' cap' w8 dw fO ig lI;obtain⟨qc,qz,bS,qb⟩:=((gJ.blk.alloc _).grown fO (fun e=>by have:=(gJ.row.lt _ e).1;omega)).rules;simp only[aj]at qc bS)|(go_simp;go_at_call 154;refine(dO _ _ _ (bg.fr (Fr.refl [] _).drew) hm2).mono ?_;rintro e nu ⟨qW,a40,rfl,rfl,gF,dx,lJ⟩;have dU:=(hG.fr (Fr.refl [] _).drew (by simp)).fr dx (by simp;omega);obtain⟨oC,zS,gI,zT⟩:=dU.blk.rules;simp only[aj]at oC gI;have zU:=dx.size)|(go_simp;go_at_call 73;refine(Calls.dead (ihb _ _ _ gF dH) default []).mono ?_;rintro e EZ (⟨rfl,iW⟩|⟨hF,E5,a41,rfl,hts,r9,iW,zV⟩);exact⟨rfl,rfl,((hf0.drew).trans dx).trans iW⟩;have gJ:=dU.fr iW (by simp;omega);obtain⟨uM,JA,kE,JB⟩:=gJ.blk.rules;simp only[aj]at uM kE;have JC:=iW.size))
    all_goals exact False.elim hF.out
   rw[aZ]at hm
   simp only[Option.some.injEq]at hm;subst hm
   go_region_law (first|(refine step_append_lies _ rfl _ _ 88 rfl (c+1) 55 i0 (.pointer none) 1 8 Tryz.underlying88 hi hz0 hz1 hz2 rfl (by decide) vk ks.length (ptrs bs) rfl (by exact aF gJ.row ((Fr.refl [] _).alloc _) (by simp)) ⟨EZ.heap.size,0,none⟩ 2 2 [cZ qW,cZ E5] rfl rfl (World.news_of_block (au.new _ _ _)) (by simp[Value.oneCell',cZ]) (by omega) (by simp[maxLen];omega) (by omega) (by have:=gJ.blk.lt;simp;omega) _ rfl ?_;intro g' cap' w8 dw fO ig lI;obtain⟨qc,qz,bS,qb⟩:=((gJ.blk.alloc _).grown fO (fun e=>by have:=(gJ.row.lt _ e).1;omega)).rules;simp only[aj]at qc bS)|(go_simp;go_at_call 154;refine(dO _ _ _ (bg.fr (Fr.refl [] _).drew) hm2).mono ?_;rintro e nu ⟨qW,a40,rfl,rfl,gF,dx,lJ⟩;have dU:=(hG.fr (Fr.refl [] _).drew (by simp)).fr dx (by simp;omega);obtain⟨oC,zS,gI,zT⟩:=dU.blk.rules;simp only[aj]at oC gI;have zU:=dx.size)|(go_simp;go_at_call 73;refine(ihb _ _ _ gF dH).mono ?_;rintro e EZ ⟨E5,a41,rfl,rfl,r9,iW,zV⟩;have gJ:=dU.fr iW (by simp;omega);obtain⟨uM,JA,kE,JB⟩:=gJ.blk.rules;simp only[aj]at uM kE;have JC:=iW.size))
   all_goals
    go_wp2;go_ret;have hK:Kids EZ W0.heap.size [qW,E5] [E,B]:=(Kids.one (show Sp nu W0.heap.size nu.heap.size qW E from lJ) (Nat.le_refl _)).snoc iW (by simp;omega) zV;obtain⟨q1,q2,q3⟩:=Gr.nG h hG hf0 ((show Fr [S.bp] W0 nu from(Fr.refl _ _).drew.trans dx).trans iW) r9 hK dw fO ig
    have hs:=q3.sp;rw[hks.out]at q1 q2 hs
    exact⟨c,a41,rfl,rfl,by simpa[aj,hks.out]using q1,by simpa[aj,hks.out]using q2,by simpa[aj,hks.out,leaf]using hs⟩
end Go.Proofs.YtoomapkcoibmhaaGreatDoor
end
