/- A part of the proof. -/
import Derived.Test.YtoomapkcoibmhaaGreatDoorQ16
set_option maxRecDepth 100000
set_option maxHeartbeats 12800000
set_option linter.all false
section
open Go Go.Proofs Go.RowKit Go.Shelf Ck
namespace Go.Proofs.YtoomapkcoibmhaaGreatDoor
theorem Vu {α β:Type} {x:Ck.P α} {f:α→Ck.P β} {ts:TS} {r:Except dS (β × TS)} (h:(x >>= f) ts=some r) :
  ∃R,x ts=some R∧((∃e,R=.error e∧r=.error e)∨∃y t,R=.ok (y,t)∧f y t=some r):=by
 obtain⟨e,h1,rfl⟩|⟨y,t,h1,h2⟩:=bind_some h
 ·exact⟨_,h1,.inl ⟨e,rfl,rfl⟩⟩
 ·exact⟨_,h1,.inr ⟨y,t,rfl,h2⟩⟩
theorem E9 {S:jf} {r:Rec} {n:Nat} (ihb:iU 73 S r.block):iU 44 S (iD S.F r n):=by
 intro a w res h hm0;have hbp:=h.blk.lt;have hlim:=h.lim;obtain⟨i0,hi,hz0,hz1,hz2⟩:=info_parts Tryz.infoSprout
 unfold iD at hm0;obtain⟨e,hm1,rfl⟩|⟨t,xg,hm1,hm⟩:=bind_some hm0
 ·go_enter Tryz.func44,Tryz.ntmps44
  go_wp2_with (go_at_call 42;refine(kX h hm1).mono ?_;rintro e w1 ⟨rfl,hf1⟩)
  exact⟨rfl,rfl,hf1⟩
 clear hm0;go_enter Tryz.func44,Tryz.ntmps44
 go_wp2_with (first|(go_at_call 42;refine(gy h hm1).mono ?_;rintro e w1 ⟨rfl,a1,rfl,aA,hf1⟩;clear hm1;obtain⟨tc,tz,jX,tb⟩:=(au.new w1 #[.int .i64 t.kind,.int .i64 t.at',.string ⟨t.text.toArray⟩,.int .i64 t.int,.int .u64 t.bits] 82).rules)|(go_at_call 39;refine(aK _ _ _ _ _ ⟨_,_,_,rfl⟩).mono ?_;rintro e w9 ⟨rfl,rfl⟩))
 obtain⟨c,hc⟩:∃c,Hid (c=(w1.alloc (aO t)).heap.size):=⟨_,rfl⟩
 obtain⟨W0,hW0⟩:∃X,X=(w1.alloc (aO t)).alloc (.cells (aj ⟨3,t.at',0,t.text,0,0⟩ 0 (.slice none 0 0)) 90):=⟨_,rfl⟩
 have hw1:=hf1.size;have hG:=Gr.new (w1.alloc (aO t)) w.heap.size ⟨3,t.at',0,t.text,0,0⟩ (by simp;omega);have bg:=(aA.fr ((Fr.refl [] _).alloc (aO t))).fr ((Fr.refl [] _).alloc (.cells (aj ⟨3,t.at',0,t.text,0,0⟩ 0 (.slice none 0 0)) 90));have hf0:=(hf1.alloc (aO t)).alloc (.cells (aj ⟨3,t.at',0,t.text,0,0⟩ 0 (.slice none 0 0)) 90);rw[←hW0]at hG bg hf0
 simp only[aj,aO]at hW0;rw[←hW0];rw[←hc.out]at hG
 have hc':=hc.out;simp only[World.size_alloc]at hc';rw[←hc'];clear hc' hW0 hc aA hf1 hw1 tc tz jX tb;obtain⟨e,hm2,rfl⟩|⟨u,tL,hm2,hm⟩:=bind_some hm
 ·go_wp2_with (go_at_call 43;refine(gQ bg hm2).mono ?_;rintro e w2 ⟨rfl,hf2⟩)
  exact⟨rfl,rfl,hf0.trans hf2⟩
 have hbw:=hf0.size
 go_wp2_with (go_at_call 43;refine(dZ bg hm2).mono ?_;rintro e w2 ⟨rfl,a2,rfl,aG,hf2⟩;clear hm2)
 replace hG:=hG.fr hf2 (by simp;omega);replace bg:=aG;replace hf0:=hf0.trans hf2;clear hbw;obtain⟨R,hR,hrest⟩:=Vu hm
 obtain⟨e,dH,rfl⟩|⟨q,wR,dH,hR⟩:=bind_some hR
 ·have hre:res=.error e:=by
   obtain⟨e',h1,h2⟩|⟨y,t,h1,h2⟩:=hrest
   ·cases h1;exact h2
   ·cases h1
  subst hre
  go_wp2_with (go_at_call 41;refine(ku bg dH).mono ?_;rintro e w3 ⟨rfl,hf3⟩)
  exact⟨rfl,rfl,hf0.trans hf3⟩
 have hl3:=eF S.F 3 [41] _ _ _ dH;have hbw:=hf0.size
 go_wp2_with (go_at_call 41;refine(dQ bg dH).mono ?_;rintro e w3 ⟨rfl,a3,rfl,bY,hf3⟩;clear dH)
 replace hG:=hG.fr hf3 (by simp;omega);replace bg:=bY;replace hf0:=hf0.trans hf3;clear hbw;have HR:=Lib.hid hrest;have HM:=Lib.hid hR;clear hrest hR hm aG hf2 hf3 bY
 go_loopg [5] n (fun k v wr=>∃q,v=.bool q∧Hid (∃ks bs vk a,(if q=true then nJ S.F k ks (S.ts a)=some R else R=.ok (ks,S.ts a))∧ks.length+(S.ts a).length≤70000∧PS S a wr∧Fr [S.bp] w wr∧Gr wr w.heap.size c ⟨3,t.at',0,t.text,0,0⟩ bs ks vk))
 case atStart =>
  refine⟨!q,rfl,[],[],.slice none 0 0,a3,?_,by rw[jf.tJ];simp;omega,bg,hf0,hG⟩
  have:=HM.out
  cases q
  ·simpa using this
  ·simp only[if_true,aZ,Option.some.injEq]at this;simpa using this.symm
 case round =>
  clear bg hf0 hG HM;obtain⟨q,rfl,hq⟩:=hrel
  obtain⟨ks,bs,vk,a,hm,hln,bg,hf0,hG⟩:=hq.out
  clear hq;have hbw:=hf0.size;cases q
  ·simp only[Bool.false_eq_true,if_false]at hm;subst hm;obtain⟨e',h1,h2⟩|⟨ps,ts,h1,hm⟩:=HR.out
   ·cases h1
   cases h1;go_wp2;have hkl:ks.length≤70000:=by omega
   obtain⟨kc,kz,aH,kb⟩:=hG.blk.rules
   simp only[aj]at kc aH;obtain⟨e,iV,rfl⟩|⟨B,Jy,iV,hm⟩:=bind_some hm
   ·go_region_dies
    all_goals (go_at_call 73;refine(ihb _ _ _ (bg.fr (Fr.refl [] _).drew) iV).mono ?_;rintro e nu ⟨rfl,dx⟩)
    all_goals exact⟨rfl,rfl,(hf0.drew).trans dx⟩
   rw[aZ]at hm
   simp only[Option.some.injEq]at hm;subst hm
   go_region_law (first|(refine step_append_lies _ rfl _ _ 88 rfl (c+1) 55 i0 (.pointer none) 1 8 Tryz.underlying88 hi hz0 hz1 hz2 rfl (by decide) vk ks.length (ptrs bs) rfl (by exact aF dU.row ((Fr.refl [] _).alloc _) (by simp)) ⟨nu.heap.size,0,none⟩ 1 1 [cZ qW] rfl rfl (World.news_of_block (au.new _ _ _)) (by simp[Value.oneCell',cZ]) (by omega) (by simp[maxLen];omega) (by omega) (by have:=dU.blk.lt;simp;omega) _ rfl ?_;intro g' cap' w8 dw fO ig lI;obtain⟨qc,qz,bS,qb⟩:=((dU.blk.alloc _).grown fO (fun e=>by have:=(dU.row.lt _ e).1;omega)).rules;simp only[aj]at qc bS)|(go_simp;go_at_call 73;refine(ihb _ _ _ (bg.fr (Fr.refl [] _).drew) iV).mono ?_;rintro e nu ⟨qW,a40,rfl,rfl,gF,dx,lJ⟩;have dU:=(hG.fr (Fr.refl [] _).drew (by simp)).fr dx (by simp;omega);obtain⟨oC,zS,gI,zT⟩:=dU.blk.rules;simp only[aj]at oC gI;have zU:=dx.size))
   all_goals
    go_wp2;go_ret;have hK:Kids nu wr.heap.size [qW] [B]:=Kids.one (show Sp nu wr.heap.size nu.heap.size qW B from lJ) (Nat.le_refl _);obtain⟨q1,q2,q3⟩:=Gr.nG h hG hf0 (show Fr [S.bp] wr nu from(Fr.refl _ _).drew.trans dx) gF hK dw fO ig
    have hs:=q3.sp;exact⟨c,a40,rfl,rfl,by simpa[aj]using q1,by simpa[aj]using q2,by simpa[aj,leaf]using hs⟩
  ·simp only[if_true]at hm;cases gk with
   | zero=>cases hm
   | succ k =>
    simp only[nJ]at hm;obtain⟨e,iV,rfl⟩|⟨l,Jy,iV,hm⟩:=bind_some hm
    ·have hre:res=.error e:=by
      obtain⟨e',h1,h2⟩|⟨y,t,h1,h2⟩:=HR.out
      ·cases h1;exact h2
      ·cases h1
     subst hre
     go_wp2_with (go_at_call 42;refine(kX bg iV).mono ?_;rintro e w4 ⟨rfl,eY⟩)
     exact⟨rfl,rfl,hf0.trans eY⟩
    have hl4:=eG S.F 1 _ _ _ iV
    go_wp2_with (go_at_call 42;refine(gy bg iV).mono ?_;rintro e w4 ⟨rfl,a4,rfl,fT,eY⟩;clear iV)
    obtain⟨W0,hW0⟩:∃X,X=w4.alloc (aO l):=⟨_,rfl⟩
    have Vv:=au.new w4 #[.int .i64 l.kind,.int .i64 l.at',.string ⟨l.text.toArray⟩,.int .i64 l.int,.int .u64 l.bits] 82;replace hG:=(hG.fr eY (by simp;omega)).fr ((Fr.refl [] _).alloc (aO l)) (by simp);replace bg:=fT.fr ((Fr.refl [] _).alloc (aO l));replace hf0:=(hf0.trans eY).alloc (aO l);have HM:=Lib.hid hm;clear hm hbw fT eY;rw[←hW0]at hG bg hf0
    simp only[aO]at hW0;rw[←hW0]at Vv ⊢
    clear hW0;obtain⟨lc,lz,pW,lb⟩:=Vv.rules
    have hkl:ks.length≤70000:=by omega
    have hbw:=hf0.size;obtain⟨kc,kz,aH,kb⟩:=hG.blk.rules
    simp only[aj]at kc aH
    go_cut []from 19 to 41 (fun W=>Hid (∃bs vk,PS S a4 W∧Fr [S.bp] w W∧Gr W w.heap.size c ⟨3,t.at',0,t.text,0,0⟩ bs (ks++[(leaf 4 l.at' l.text [])]) vk))
    case first =>
     have lJ:Sp (W0.drew.alloc (.cells #[.int .i64 4,.int .i64 l.at',.int .i64 0,.string ⟨l.text.toArray⟩,.int .i64 0,.int .u64 0,.slice none 0 0] 90)) W0.heap.size (W0.heap.size+1) W0.heap.size (leaf 4 l.at' l.text []):=by simpa[aj,leaf]using pI (W:=W0.drew) (lo:=W0.heap.size) ⟨4,l.at',0,l.text,0,0⟩ (Nat.le_refl _)
     have dx:Fr [] W0 (W0.drew.alloc (.cells #[.int .i64 4,.int .i64 l.at',.int .i64 0,.string ⟨l.text.toArray⟩,.int .i64 0,.int .u64 0,.slice none 0 0] 90)):=(Fr.refl [] W0).drew.alloc _;have dU:=hG.fr dx (by simp);have gF:=bg.fr dx;have zW:(W0.drew.alloc (.cells #[.int .i64 4,.int .i64 l.at',.int .i64 0,.string ⟨l.text.toArray⟩,.int .i64 0,.int .u64 0,.slice none 0 0] 90)).heap.size=W0.heap.size+1:=by simp
     obtain⟨W4,oW⟩:∃X,X=W0.drew.alloc (.cells #[.int .i64 4,.int .i64 l.at',.int .i64 0,.string ⟨l.text.toArray⟩,.int .i64 0,.int .u64 0,.slice none 0 0] 90):=⟨_,rfl⟩
     rw[←oW]at lJ dx dU gF zW
     have HZ:=Lib.hid zW;clear zW;have cn:Calls Tryz.prog 39 #[.int .i64 4,.int .i64 l.at',.string ⟨l.text.toArray⟩,.slice none 0 0] W0.drew fun e w'=>e=.returned (.pointer (some ⟨W0.heap.size,0,none⟩))∧W4=w':=(aK 4 l.at' l.text _ _ ⟨_,_,_,rfl⟩).mono (fun e w' hh=>⟨by simpa using hh.1,by rw[oW];exact hh.2.symm⟩)
     clear oW;obtain⟨rc,rz,bE,rb⟩:=dU.blk.rules
     simp only[aj]at rc bE
     go_region_law (first|(refine step_append_lies _ rfl _ _ 88 rfl (c+1) 55 i0 (.pointer none) 1 8 Tryz.underlying88 hi hz0 hz1 hz2 rfl (by decide) vk ks.length (ptrs bs) rfl (by exact aF dU.row ((Fr.refl [] _).alloc _) (by simp)) ⟨W4.heap.size,0,none⟩ 1 1 [cZ W0.heap.size] rfl rfl (World.news_of_block (au.new _ _ _)) (by simp[Value.oneCell',cZ]) (by omega) (by simp[maxLen];omega) (by omega) (by have:=dU.blk.lt;simp;omega) _ rfl ?_;intro g' cap' w8 dw fO ig lI;obtain⟨qc,qz,bS,qb⟩:=((dU.blk.alloc _).grown fO (fun e=>by have:=(dU.row.lt _ e).1;omega)).rules;simp only[aj]at qc bS)|(go_simp;go_at_call 39;refine cn.mono ?_;rintro e w9 ⟨rfl,rfl⟩))
     all_goals
      go_wp2
      go_meet
      case rel =>
       have hK:Kids W4 W0.heap.size [W0.heap.size] [(leaf 4 l.at' l.text [])]:=Kids.one lJ (by have:=HZ.out;omega);obtain⟨q1,q2,q3⟩:=Gr.nG h hG hf0 dx.nil gF hK dw fO ig
       exact⟨_,_,by simpa[aj]using q1,by simpa[aj]using q2,by simpa[aj]using q3⟩
    case rest =>
     clear hG bg hf0 kc kz aH kb hbw Vv lc lz pW lb hkl;obtain⟨bs,vk,bg,hf0,hG⟩:=hcut.out
     clear hcut;have hm:=HM.out;clear HM;have hbw:=hf0.size;obtain⟨e,yC,rfl⟩|⟨p,ts5,yC,hm⟩:=bind_some hm
     ·have hre:res=.error e:=by
       obtain⟨e',h1,h2⟩|⟨y,t,h1,h2⟩:=HR.out
       ·cases h1;exact h2
       ·cases h1
      subst hre
      go_wp2_with (go_at_call 41;refine(ku bg yC).mono ?_;rintro e w5 ⟨rfl,fF⟩)
      exact⟨rfl,rfl,hf0.trans fF⟩
     have hl5:=eF S.F 3 [44] _ _ _ yC;cases p
     ·simp only[Bool.false_eq_true,if_false]at hm;obtain⟨e,zR,rfl⟩|⟨u,Z8,zR,hm⟩:=bind_some hm
      ·have hre:res=.error e:=by
        obtain⟨e',h1,h2⟩|⟨y,t,h1,h2⟩:=HR.out
        ·cases h1;exact h2
        ·cases h1
       subst hre
       go_wp2_with (first|(go_at_call 41;refine(dQ bg yC).mono ?_;rintro e w5 ⟨rfl,a5,rfl,ng,fF⟩;clear yC)|(go_at_call 43;refine(gQ ng zR).mono ?_;rintro e w6 ⟨rfl,jA⟩))
       exact⟨rfl,rfl,(hf0.trans fF).trans jA⟩
      have hl6:=bF S.F 3 [41] _ _ _ zR;rw[aZ]at hm
      simp only[Option.some.injEq]at hm;have HE:=Lib.hid hm;clear hm
      go_wp2_with (first|(go_at_call 41;refine(dQ bg yC).mono ?_;rintro e w5 ⟨rfl,a5,rfl,ng,fF⟩;clear yC)|(go_at_call 43;refine(dZ ng zR).mono ?_;rintro e w6 ⟨rfl,a6,rfl,aaS,jA⟩;clear zR))
      go_roundg k
      case measure=>omega
      case rel=>exact⟨false,rfl,ks++[(leaf 4 l.at' l.text [])],bs,vk,a6,by simpa using HE.out.symm,by simp;omega,aaS,(hf0.trans fF).trans jA,(hG.fr fF (by simp;omega)).fr jA (by simp;omega)⟩
     ·simp only[if_true]at hm;have HE:=Lib.hid hm;clear hm
      go_wp2_with (go_at_call 41;refine(dQ bg yC).mono ?_;rintro e w5 ⟨rfl,a5,rfl,ng,fF⟩;clear yC)
      go_roundg k
      case measure=>omega
      case rel=>exact⟨true,rfl,ks++[(leaf 4 l.at' l.text [])],bs,vk,a5,by simpa using HE.out,by simp;omega,ng,hf0.trans fF,hG.fr fF (by simp;omega)⟩
theorem GA {S:jf} {r:Rec} {m n:Nat} (hcf:aR 1 (iD S.F r m)) (Z9:iU 44 S (iD S.F r m)):iU 25 S (jT S.F r m n [] >>= fun ks=>pure (leaf 1 0 [] ks)):=by
 intro a w res h hm0;have hbp:=h.blk.lt;have hlim:=h.lim;obtain⟨i0,hi,hz0,hz1,hz2⟩:=info_parts Tryz.infoSprout
 obtain⟨R,hR,hres⟩:=xk hm0
 have HR:=Lib.hid hres;have HM:=Lib.hid hR;clear hres hR hm0;go_enter Tryz.func25,Tryz.ntmps25
 go_wp2_with (go_at_call 39;refine(aK _ _ _ _ _ ⟨_,_,_,rfl⟩).mono ?_;rintro e w9 ⟨rfl,rfl⟩)
 obtain⟨c,hc⟩:∃c,Hid (c=w.heap.size):=⟨_,rfl⟩
 have hG:=Gr.new w w.heap.size ⟨1,0,0,[],0,0⟩ (Nat.le_refl _);have bg:=h.fr ((Fr.refl [] _).alloc (.cells (aj ⟨1,0,0,[],0,0⟩ 0 (.slice none 0 0)) 90));have hf0:=(Fr.refl [S.bp] w).alloc (.cells (aj ⟨1,0,0,[],0,0⟩ 0 (.slice none 0 0)) 90)
 go_loopg [] n (fun k wr=>Hid (∃ks bs vk a,jT S.F r m k ks (S.ts a)=some R∧ks.length+(S.ts a).length≤70000∧PS S a wr∧Fr [S.bp] w wr∧Gr wr w.heap.size w.heap.size ⟨1,0,0,[],0,0⟩ bs ks vk))
 case atStart =>
  apply Lib.hid;exact⟨[],[],.slice none 0 0,a,HM.out,by rw[jf.tJ];simp;omega,bg,hf0,hG⟩
 case round =>
  clear bg hf0 hG HM hc;obtain⟨ks,bs,vk,a,hm,hln,bg,hf0,hG⟩:=hrel.out
  clear hrel;have hbw:=hf0.size;cases gk with
  | zero=>cases hm
  | succ k =>
   simp only[jT]at hm;obtain⟨e,hm1,rfl⟩|⟨t,xg,hm1,hm⟩:=bind_some hm
   ·go_wp2_with (go_at_call 40;refine(vN bg hm1).mono ?_;rintro e w1 ⟨rfl,hf1⟩)
    rw[HR.out];exact⟨rfl,rfl,hf0.trans hf1⟩
   have c1:=look_ok bg hm1;obtain rfl:xg=S.ts a:=by rw[look_eq]at hm1;split at hm1<;>first|(cases hm1;rfl)|cases hm1
   clear hm1;cases h7:t.kind==7
   case true =>
    have h7':(t.kind != 7)=false:=by rw[bne,h7];rfl
    simp only[h7,if_true,aZ,Option.some.injEq]at hm;subst hm
    go_wp2_with (go_at_call 40;refine(c1).mono ?_;rintro e w1 ⟨rfl,_,ha,aA,hf1⟩;clear c1)
    go_ret;rw[HR.out];have hs:=(hG.fr hf1 (by simp)).sp;exact⟨_,a,rfl,rfl,aA,hf0.trans hf1.nil,by simpa[leaf]using hs⟩
   have h7':(t.kind != 7)=true:=by rw[bne,h7];rfl
   simp only[h7,Bool.false_eq_true,if_false]at hm;obtain⟨e,hm2,rfl⟩|⟨q,tL,hm2,hm⟩:=bind_some hm
   ·go_wp2_with (first|(go_at_call 40;refine(c1).mono ?_;rintro e w1 ⟨rfl,_,ha,aA,hf1⟩;clear c1)|(go_at_call 41;refine(ku aA hm2).mono ?_;rintro e w2 ⟨rfl,hf2⟩))
    rw[HR.out];exact⟨rfl,rfl,(hf0.trans hf1.nil).trans hf2⟩
   have c2:=fun W (hW:PS S a W)=>dQ hW hm2
   have hl2:=eF S.F 2 [108,101,116] _ _ _ hm2;clear hm2;cases q
   ·simp only[Bool.false_eq_true,if_false]at hm;obtain⟨e,dH,rfl⟩|⟨q,wR,dH,hm⟩:=bind_some hm
    ·go_wp2_with (first|(go_at_call 40;refine(c1).mono ?_;rintro e w1 ⟨rfl,_,ha,aA,hf1⟩;clear c1)|(go_at_call 41;refine(c2 _ aA).mono ?_;rintro e w2 ⟨rfl,a2,rfl,aG,hf2⟩;clear c2;have gK:=(hf0.trans hf1.nil).trans hf2;have hG2:=(hG.fr hf1 (by simp)).fr hf2 (by simp;omega))|(go_at_call 41;refine(ku aG dH).mono ?_;rintro e w3 ⟨rfl,hf3⟩))
     rw[HR.out];exact⟨rfl,rfl,gK.trans hf3⟩
    have hl3:=eF S.F 2 [102,110] _ _ _ dH;have c3:=fun a W (ha:tL=S.ts a) (hW:PS S a W)=>dQ hW (by rw[←ha];exact dH)
    clear dH;cases q
    ·simp only[Bool.false_eq_true,if_false]at hm;obtain⟨f,rfl,cw⟩:=qo hm
     clear hm
     go_wp2_with (first|(go_at_call 40;refine(c1).mono ?_;rintro e w1 ⟨rfl,_,ha,aA,hf1⟩;clear c1)|(go_at_call 41;refine(c2 _ aA).mono ?_;rintro e w2 ⟨rfl,a2,ha2,aG,hf2⟩;clear c2;have gK:=(hf0.trans hf1.nil).trans hf2;have hG2:=(hG.fr hf1 (by simp)).fr hf2 (by simp;omega))|(go_at_call 41;refine(c3 _ _ ha2 aG).mono ?_;rintro e w3 ⟨rfl,a3,rfl,bY,hf3⟩;clear c3;have ny:=gK.trans hf3;have hG3:=hG2.fr hf3 (by simp;omega))|(go_at_call 45;refine(cw _ _ rfl bY).mono ?_;rintro e w8 ⟨rfl,vO⟩))
     rw[HR.out];exact⟨rfl,rfl,ny.trans vO⟩
    ·simp only[if_true]at hm
     go_wp2_with (first|(go_at_call 40;refine(c1).mono ?_;rintro e w1 ⟨rfl,_,ha,aA,hf1⟩;clear c1)|(go_at_call 41;refine(c2 _ aA).mono ?_;rintro e w2 ⟨rfl,a2,ha2,aG,hf2⟩;clear c2;have gK:=(hf0.trans hf1.nil).trans hf2;have hG2:=(hG.fr hf1 (by simp)).fr hf2 (by simp;omega))|(go_at_call 41;refine(c3 _ _ ha2 aG).mono ?_;rintro e w3 ⟨rfl,a3,rfl,bY,hf3⟩;clear c3;have ny:=gK.trans hf3;have hG3:=hG2.fr hf3 (by simp;omega)))
     clear hG hG2 bg aA aG hf1 hf2 gK hf3;have hG:=hG3;have bg:=bY;replace hf0:=ny;clear hG3 bY ny;have hkl:ks.length≤70000:=by omega
     replace hbw:=hf0.size;obtain⟨c,hc⟩:∃c,c=w.heap.size:=⟨_,rfl⟩
     obtain⟨kc,kz,aH,kb⟩:=hG.blk.rules
     simp only[aj]at kc aH;clear hc c;obtain⟨e,iV,rfl⟩|⟨E,Jy,iV,hm⟩:=bind_some hm
     ·go_region_dies
      all_goals (go_at_call 44;refine(Z9 _ _ _ (bg.fr (Fr.refl [] _).drew) iV).mono ?_;rintro e nu ⟨rfl,dx⟩)
      all_goals rw[HR.out];exact⟨rfl,rfl,(hf0.drew).trans dx⟩
     have hl4:=hcf _ _ _ iV;have HM:=Lib.hid hm;clear hm
     go_region_law (first|(refine step_append_lies _ rfl _ _ 88 rfl (w.heap.size+1) 55 i0 (.pointer none) 1 8 Tryz.underlying88 hi hz0 hz1 hz2 rfl (by decide) vk ks.length (ptrs bs) rfl (by exact aF dU.row ((Fr.refl [] _).alloc _) (by simp)) ⟨nu.heap.size,0,none⟩ 1 1 [cZ qW] rfl rfl (World.news_of_block (au.new _ _ _)) (by simp[Value.oneCell',cZ]) (by omega) (by simp[maxLen];omega) (by omega) (by have:=dU.blk.lt;simp;omega) _ rfl ?_;intro g' cap' w8 dw fO ig lI;obtain⟨qc,qz,bS,qb⟩:=((dU.blk.alloc _).grown fO (fun e=>by have:=(dU.row.lt _ e).1;omega)).rules;simp only[aj]at qc bS)|(go_simp;go_at_call 44;refine(Z9 _ _ _ (bg.fr (Fr.refl [] _).drew) iV).mono ?_;rintro e nu ⟨qW,a40,rfl,rfl,gF,dx,lJ⟩;have dU:=(hG.fr (Fr.refl [] _).drew (by simp)).fr dx (by simp;omega);obtain⟨oC,zS,gI,zT⟩:=dU.blk.rules;simp only[aj]at oC gI;have zU:=dx.size))
     all_goals
      go_wp2
      go_roundg k
      case measure=>omega
      case rel =>
       have hK:Kids nu w3.heap.size [qW] [E]:=Kids.one (show Sp nu w3.heap.size nu.heap.size qW E from lJ) (Nat.le_refl _);obtain⟨q1,q2,q3⟩:=Gr.nG h hG hf0 (show Fr [S.bp] w3 nu from(Fr.refl _ _).drew.trans dx) gF hK dw fO ig
       apply Lib.hid;exact⟨ks++[E],_,_,a40,HM.out,by simp;omega,by simpa[aj]using q1,by simpa[aj]using q2,by simpa[aj]using q3⟩
   ·simp only[if_true]at hm;obtain⟨e,dH,rfl⟩|⟨l,wR,dH,hm⟩:=bind_some hm
    ·go_wp2_with (first|(go_at_call 40;refine(c1).mono ?_;rintro e w1 ⟨rfl,_,ha,aA,hf1⟩;clear c1)|(go_at_call 41;refine(c2 _ aA).mono ?_;rintro e w2 ⟨rfl,a2,rfl,aG,hf2⟩;clear c2;have gK:=(hf0.trans hf1.nil).trans hf2;have hG2:=(hG.fr hf1 (by simp)).fr hf2 (by simp;omega))|(go_at_call 42;refine(kX aG dH).mono ?_;rintro e w3 ⟨rfl,hf3⟩))
     rw[HR.out];exact⟨rfl,rfl,gK.trans hf3⟩
    have hl3:=eG S.F 1 _ _ _ dH;obtain⟨e,iV,rfl⟩|⟨u,Jy,iV,hm⟩:=bind_some hm
    ·go_wp2_with (first|(go_at_call 40;refine(c1).mono ?_;rintro e w1 ⟨rfl,_,ha,aA,hf1⟩;clear c1)|(go_at_call 41;refine(c2 _ aA).mono ?_;rintro e w2 ⟨rfl,a2,rfl,aG,hf2⟩;clear c2;have gK:=(hf0.trans hf1.nil).trans hf2;have hG2:=(hG.fr hf1 (by simp)).fr hf2 (by simp;omega))|(go_at_call 42;refine(gy aG dH).mono ?_;rintro e w3 ⟨rfl,a3,rfl,bY,hf3⟩;clear dH)|(go_at_call 43;refine(gQ (bY.fr ((Fr.refl [] _).alloc (aO l))) iV).mono ?_;rintro e w4 ⟨rfl,eY⟩))
     rw[HR.out];exact⟨rfl,rfl,((gK.trans hf3).alloc (aO l)).trans eY⟩
    have hl4:=bF S.F 3 [59] _ _ _ iV
    go_wp2_with (first|(go_at_call 40;refine(c1).mono ?_;rintro e w1 ⟨rfl,_,ha,aA,hf1⟩;clear c1)|(go_at_call 41;refine(c2 _ aA).mono ?_;rintro e w2 ⟨rfl,a2,rfl,aG,hf2⟩;clear c2;have gK:=(hf0.trans hf1.nil).trans hf2;have hG2:=(hG.fr hf1 (by simp)).fr hf2 (by simp;omega))|(go_at_call 42;refine(gy aG dH).mono ?_;rintro e w3 ⟨rfl,a3,rfl,bY,hf3⟩;clear dH)|(go_at_call 43;refine(dZ (bY.fr ((Fr.refl [] _).alloc (aO l))) iV).mono ?_;rintro e w4 ⟨rfl,a4,rfl,fT,eY⟩;clear iV))
    have Vv:=(au.new w3 #[.int .i64 l.kind,.int .i64 l.at',.string ⟨l.text.toArray⟩,.int .i64 l.int,.int .u64 l.bits] 82).fr eY (by have:=gK.trans hf3 |>.size;simp;omega);replace hG:=((hG2.fr hf3 (by simp;omega)).fr ((Fr.refl [] _).alloc (aO l)) (by simp)).fr eY (by simp;omega);replace hf0:=((gK.trans hf3).alloc (aO l)).trans eY;have Tg:=fT;clear bg aA aG bY hf1 hf2 hf3 eY gK hG2 fT;have bg:=Tg;clear Tg;have HM:=Lib.hid hm;clear hm;obtain⟨lc,lz,pW,lb⟩:=Vv.rules
    have hkl:ks.length≤70000:=by omega
    replace hbw:=hf0.size;obtain⟨kc,kz,aH,kb⟩:=hG.blk.rules
    simp only[aj]at kc aH;have lJ:Sp (w4.drew.alloc (.cells #[.int .i64 2,.int .i64 l.at',.int .i64 0,.string ⟨l.text.toArray⟩,.int .i64 0,.int .u64 0,.slice none 0 0] 90)) w4.heap.size (w4.heap.size+1) w4.heap.size (leaf 2 l.at' l.text []):=by simpa[aj,leaf]using pI (W:=w4.drew) (lo:=w4.heap.size) ⟨2,l.at',0,l.text,0,0⟩ (Nat.le_refl _)
    have dx:Fr [] w4 (w4.drew.alloc (.cells #[.int .i64 2,.int .i64 l.at',.int .i64 0,.string ⟨l.text.toArray⟩,.int .i64 0,.int .u64 0,.slice none 0 0] 90)):=(Fr.refl [] w4).drew.alloc _;have dU:=hG.fr dx (by simp);have gF:=bg.fr dx;have zW:(w4.drew.alloc (.cells #[.int .i64 2,.int .i64 l.at',.int .i64 0,.string ⟨l.text.toArray⟩,.int .i64 0,.int .u64 0,.slice none 0 0] 90)).heap.size=w4.heap.size+1:=by simp
    obtain⟨W4,oW⟩:∃X,X=w4.drew.alloc (.cells #[.int .i64 2,.int .i64 l.at',.int .i64 0,.string ⟨l.text.toArray⟩,.int .i64 0,.int .u64 0,.slice none 0 0] 90):=⟨_,rfl⟩
    rw[←oW]at lJ dx dU gF zW
    have HZ:=Lib.hid zW;clear zW;have cn:Calls Tryz.prog 39 #[.int .i64 2,.int .i64 l.at',.string ⟨l.text.toArray⟩,.slice none 0 0] w4.drew fun e w'=>e=.returned (.pointer (some ⟨w4.heap.size,0,none⟩))∧W4=w':=(aK 2 l.at' l.text _ _ ⟨_,_,_,rfl⟩).mono (fun e w' hh=>⟨by simpa using hh.1,by rw[oW];exact hh.2.symm⟩)
    clear oW;obtain⟨rc,rz,bE,rb⟩:=dU.blk.rules
    simp only[aj]at rc bE
    go_region_law (first|(refine step_append_lies _ rfl _ _ 88 rfl (w.heap.size+1) 55 i0 (.pointer none) 1 8 Tryz.underlying88 hi hz0 hz1 hz2 rfl (by decide) vk ks.length (ptrs bs) rfl (by exact aF dU.row ((Fr.refl [] _).alloc _) (by simp)) ⟨W4.heap.size,0,none⟩ 1 1 [cZ w4.heap.size] rfl rfl (World.news_of_block (au.new _ _ _)) (by simp[Value.oneCell',cZ]) (by omega) (by simp[maxLen];omega) (by omega) (by have:=dU.blk.lt;simp;omega) _ rfl ?_;intro g' cap' w8 dw fO ig lI;obtain⟨qc,qz,bS,qb⟩:=((dU.blk.alloc _).grown fO (fun e=>by have:=(dU.row.lt _ e).1;omega)).rules;simp only[aj]at qc bS)|(go_simp;go_at_call 39;refine cn.mono ?_;rintro e w9 ⟨rfl,rfl⟩))
    all_goals
     go_wp2
     go_roundg k
     case measure=>omega
     case rel =>
      have hK:Kids W4 w4.heap.size [w4.heap.size] [(leaf 2 l.at' l.text [])]:=Kids.one lJ (by have:=HZ.out;omega);obtain⟨q1,q2,q3⟩:=Gr.nG h hG hf0 dx.nil gF hK dw fO ig
      apply Lib.hid;exact⟨ks++[(leaf 2 l.at' l.text [])],_,_,a4,HM.out,by simp;omega,by simpa[aj]using q1,by simpa[aj]using q2,by simpa[aj]using q3⟩
def RS (lo hi:Nat) (v:Value):List Nat:=List.range' lo (hi-lo)++v.ownBlock.toList
theorem sj {lo hi k:Nat} {v:Value}:k∈RS lo hi v↔(lo≤k∧k<hi)∨v.ownBlock=some k:=by
 unfold RS;simp only[List.mem_append,List.mem_range'_1,Option.mem_toList];constructor
 ·rintro(h|h)
  ·exact .inl (by omega)
  ·exact .inr h
 ·rintro(h|h)
  ·exact .inl (by omega)
  ·exact .inr h
abbrev JF (T:Tree):Prop:=∀(w:World) (lo hi b base:Nat) (v:Value) (L:List Ck.Node),Sp w lo hi b T→hi≤base→base≤w.heap.size→w.ownsRow base 40 6 v L.length (kY L)→L.length+T.row.length≤1000000000 →
  Calls Tryz.prog 26 #[.pointer (some ⟨b,0,none⟩),v] w fun e w'=>∃v',e=.returned v'∧w'.ownsRow base 40 6 v' (L++T.row).length (kY (L++T.row))∧Fr (RS lo hi v) w w'∧∀k,v'.ownBlock=some k→v.ownBlock=some k∨w.heap.size≤k
theorem O7 {w:World} {b:Nat} {c:Array Value} {T U:TypeId} {cs:Array Value}:∀j u,cs.toList[j]? = some u→((Ck.blk w b c T).alloc (.cells cs U)).cell? ((⟨w.heap.size,0,none⟩:Addr).add j)=some u:=by
 have h:=au.new (Ck.blk w b c T) cs U;rw[aB]at h
 exact World.news_of_block h
theorem GH (ks:List Tree) (i:Nat):(rows (ks.take i)).length≤(rows ks).length:=by
 induction ks generalizing i with
 | nil=>simp
 | cons t l ih =>
  cases i with
  | zero=>simp[rows]
  | succ i=>simp only[List.take_succ_cons,rows,List.length_append];have:=ih i;omega
theorem Rz (t:Tree):1≤t.row.length:=by
 cases t;simp[Tree.row]
theorem LB (ks:List Tree):ks.length≤(rows ks).length:=by
 induction ks with
 | nil=>simp
 | cons t l ih=>simp only[rows,List.length_append,List.length_cons];have:=Rz t;omega
theorem zZ (ks:List Tree) (i:Nat) (t:Tree) (h:ks[i]? = some t):rows (ks.take (i+1))=rows (ks.take i)++t.row:=by
 induction ks generalizing i with
 | nil=>simp at h
 | cons a l ih =>
  cases i with
  | zero=>simp at h;subst h;simp[rows]
  | succ i=>simp at h;simp only[List.take_succ_cons,rows,ih i h,List.append_assoc]
theorem row_step (n:Ck.Node) (ks:List Tree) (ih:∀t∈ks,JF t):JF (.mk n ks):=by
 intro w lo hi b base v L hs hhb hbs hrow hlen;obtain⟨i0,hi0,hz0,hz1,hz2⟩:=info_parts Tryz.infoNode
 have hlt:=hs.lt;simp only[Sp]at hs;obtain⟨_,_,z,vk,bs,hB,hkr,hvk,jZ⟩:=hs
 have hbl:=jZ.length;obtain⟨kc,kz,aH,kb⟩:=hB.rules
 simp only[aj]at kc aH
 have hkv:∃x cp,vk=.slice x ks.length cp∧(0<ks.length→∃g,x=some ⟨g,0,none⟩∧g<hi):=by
  rcases hkr.2 with⟨rfl,h0⟩|⟨g,cap,cur,rfl,_⟩
  ·exact⟨none,0,by rw[h0],fun h=>by omega⟩
  ·exact⟨_,_,rfl,fun _=>⟨g,rfl,hvk g rfl⟩⟩
 obtain⟨x,cp,rfl,hx⟩:=hkv
 have hL:L.length≤1000000000:=by omega
 have hT:L.length+(1+(rows ks).length)≤1000000000:=by simpa[Tree.row,Nat.add_comm]using hlen
 have hv:∃p m q,v=.slice p m q:=by
  rcases hrow.2 with⟨rfl,_⟩|⟨g,cap,cur,rfl,_⟩<;>exact⟨_,_,_,rfl⟩
 have TU:=hrow.lt;obtain⟨v0,hv0⟩:∃v0,Hid (v=v0):=⟨v,rfl⟩
 clear hv;go_enter Tryz.func26,Tryz.ntmps26
 go_wp2_with (at_builtin;refine wpList_append_lies _ rfl _ _ 23 rfl base 40 i0 (.agg #[.int .i64 0,.int .i64 0,.int .i64 0,.string ⟨#[]⟩,.int .i64 0,.int .u64 0]) 6 56 Tryz.underlying23 hi0 hz0 hz1 hz2 rfl (by decide) v L.length (kY L) rfl (aF (eB hrow (by omega)) ((Fr.refl [] _).alloc _) (by simp)) ⟨w.heap.size,0,none⟩ 1 1 (tZ { n with kids:=(ks.length:Int) }) rfl rfl (fun j u hu=>O7 j u hu) (by simp[tZ,Value.oneCell']) (by omega) (by simp[maxLen];omega) (by omega) (by simp[aB];omega) _ rfl ?_;intro g' cap' w3 hown3 hg3 CQ hlt3;obtain⟨qc,qz,bS,qb⟩:=(((au.blk kb).alloc _).grown hg3 (fun e=>by have:=(TU _ e).1;omega)).rules)
 have hf3:Fr (RS lo hi v) w w3:=(((Fr.refl (RS lo hi v) w).blk (.inl (sj.2 (.inl hlt))) _ _).alloc _).grown hg3 (fun k e=>.inl (sj.2 (.inr e)))
 have TV:iw w3 lo hi b (Value.slice x ks.length cp).ownBlock bs ks:=jZ.Lx (fun k k1 k2 k3 k4=>by
  rw[hg3.block k (by simp[aB];omega) (fun e=>by have:=(TU k e.symm).1;omega),Below.heap_alloc _ _ k (by rw[aB];omega),bH k3])
 have Ad:∀g,x=some ⟨g,0,none⟩→∀j y,bs[j]? = some y→w3.cell? ⟨g,j,none⟩=some (cZ y):=fun g hg j y hy=>by
  have hgl:=hvk g (by rw[hg];rfl)
  have hgb:g≠b:=by
   intro e;rcases hkr.2 with⟨e0,_⟩|⟨g0,cap,cur,e0,_,hgg,_⟩
   ·rw[hg]at e0;cases e0
   ·rw[hg]at e0;cases e0
    have:=hgg.symm.trans (show w.heap[g]? = some (.cells (aj n z (.slice x ks.length cp)) 90)by rw[e];exact hB)
    simp at this
  have h1:=hkr.cells (g:=g) (by rw[hg];rfl) j (cZ y) (by simp[ptrs,hy]);rw[add0]at h1
  rw[←h1];refine World.cell?_of_block (a:=⟨g,j,none⟩) ?_;show w3.heap[g]? = w.heap[g]?;rw[hg3.block g (by simp[aB];omega) (fun e=>by have:=(TU g e.symm).1;omega),Below.heap_alloc _ _ g (by rw[aB];omega),bH hgb]
 have Vw:∀k,(Value.slice (some ⟨g',0,none⟩) (L.length+1) cap').ownBlock=some k→v.ownBlock=some k∨w.heap.size≤k:=fun k e=>by
  have:g'=k:=by simpa[Value.ownBlock]using e
  rcases CQ with h1|h1
  ·exact .inl (by rw[h1,this])
  ·exact .inr (by rw[←this,h1];simp[aB])
 clear hg3 CQ hlt3 qc qz bS qb kc kz aH kb hv0 hkr hrow
 go_loopg [1,28] ks.length (fun k v2 iv wr=>∃(i:Nat) (v1:Value),v1=v2∧iv=.int .i64 i∧k+i=ks.length∧Hid (wr.ownsRow base 40 6 v1 (L.length+1+(rows (ks.take i)).length) (kY (L++[{ n with kids:=(ks.length:Int) }]++rows (ks.take i)))∧Fr (RS lo hi v) w wr ∧
   (∀k,v1.ownBlock=some k→v.ownBlock=some k∨w.heap.size≤k)∧(∃l,lo≤l∧iw wr l hi b (Value.slice x ks.length cp).ownBlock (bs.drop i) (ks.drop i))∧∀g,x=some ⟨g,0,none⟩→∀j y,bs[j]? = some y→wr.cell? ⟨g,j,none⟩=some (cZ y)))
 case atStart =>
  refine⟨0,_,rfl,rfl,rfl,?_,hf3,Vw,⟨lo,Nat.le_refl _,TV⟩,Ad⟩;simpa[rows,kY,tZ]using hown3
 case round =>
  obtain⟨i,v1,rfl,rfl,hki,hq⟩:=hrel
  obtain⟨hown,hf,hat,⟨l,hll,hsp⟩,hcell⟩:=hq.out
  have hbw:=hf.size;rcases Nat.lt_or_ge i ks.length with hik|hik
  ·obtain⟨t,ht⟩:∃t,ks[i]? = some t:=⟨ks[i],by simp[hik]⟩
   have hdk:ks.drop i=t::ks.drop (i+1):=by
    rw[List.drop_eq_getElem_cons hik];congr 1;rw[List.getElem?_eq_getElem hik]at ht
    exact Option.some.inj ht
   rw[hdk]at hsp
   simp only[iw]at hsp;obtain⟨y,ys,l1,h1,hdb,a1,a2,a3,a4,a5,a6,a7⟩:=hsp
   have hy:bs[i]? = some y:=by
    have:=congrArg List.head? hdb
    simpa using this
   have hys:bs.drop (i+1)=ys:=by
    have:=congrArg List.tail hdb
    simpa using this
   obtain⟨g,rfl,hgh⟩:=hx (by omega)
   have hci:=hcell g rfl i y hy;simp only[cZ]at hci;have HC:=Lib.hid hcell;clear hcell;have hx0:(0:Int)≤(i:Int):=Int.natCast_nonneg i;have hxi:(i:Int)<ks.length:=by omega
   have hr1:=zZ ks i t ht;have hr2:=GH ks (i+1);have hgo:∀k,v1.ownBlock=some k→base≤k:=fun k e=>(hown.lt k e).1
   have hLl:(L++[({ n with kids:=(ks.length:Int) }:Ck.Node)]++rows (ks.take i)).length=L.length+1+(rows (ks.take i)).length:=by simp only[List.length_append,List.length_cons,List.length_nil,Nat.zero_add]
   have c1:=ih t (List.mem_of_getElem? ht) wr l1 h1 y base v1 (L++[{ n with kids:=(ks.length:Int) }]++rows (ks.take i)) a6 (by omega) (by omega) (by rw[hLl];exact hown) (by rw[hr1]at hr2;simp only[List.length_append,List.length_cons,List.length_nil]at hr2 ⊢;omega);have ad3:ks.length≤1000000000:=by have:=LB ks;omega
   go_wp2_with (go_at_call 26;refine c1.mono ?_;rintro e w4 ⟨v4,rfl,vP,eY,Vx⟩)
   have hkb:=LB ks;have hkk:(ks.length-(i+1))+(i+1)=ks.length:=by omega
   have hkl:ks.length-(i+1)<gk:=by omega
   go_roundg (ks.length-(i+1))
   case measure=>exact hkl
   case rel =>
    refine⟨i+1,_,rfl,by go_num,hkk,?_,?_,?_,⟨h1,by omega,?_⟩,?_⟩
    ·rw[hr1];have aaT:(L++[({ n with kids:=(ks.length:Int) }:Ck.Node)]++rows (ks.take i)++t.row).length=L.length+1+(rows (ks.take i)++t.row).length:=by simp only[List.length_append,List.length_cons,List.length_nil,Nat.zero_add,Nat.add_assoc]
     rw[aaT,List.append_assoc]at vP
     exact vP
    ·refine hf.then eY (fun k hk=>?_);rcases sj.1 hk with h2|h2
     ·exact .inl (sj.2 (.inl (by omega)))
     ·rcases hat k h2 with h3|h3
      ·exact .inl (sj.2 (.inr h3))
      ·exact .inr h3
    ·intro k e;rcases Vx k e with h2|h2
     ·exact hat k h2
     ·exact .inr (by omega)
    ·rw[hys]
     exact a7.keep (fun k k1 k2=>eY.block k (by omega) (fun hm=>by
      rcases sj.1 hm with h2|h2
      ·omega
      ·have:=hgo k h2;omega)) (Nat.le_refl _) (Nat.le_refl _)
    ·intro g2 hg2 j y2 hy2;cases hg2;refine eY.cell (HC.out g rfl j y2 hy2) (fun hm=>?_);rcases sj.1 hm with h2|h2
     ·have:=a5 g rfl;simp at h2;omega
     ·have:=hgo g h2;omega
  ·have hie:i=ks.length:=by omega
   subst hie;have hxi:¬((ks.length:Int)<ks.length):=by omega
   go_wp2;go_ret;refine⟨v1,rfl,?_,hf,hat⟩;rw[List.take_length]at hown
   simpa[Tree.row,Nat.add_assoc,Nat.add_comm,Nat.add_left_comm]using hown
theorem LC:∀(m:Nat) (T:Tree),SizeOf.sizeOf T≤m→JF T
 | 0,.mk n ks,h=>by simp at h
 | m+1,.mk n ks,h=>row_step n ks fun t ht=>LC m t (by
   have:=List.sizeOf_lt_of_mem ht
   simp at h;omega)
end Go.Proofs.YtoomapkcoibmhaaGreatDoor
end
