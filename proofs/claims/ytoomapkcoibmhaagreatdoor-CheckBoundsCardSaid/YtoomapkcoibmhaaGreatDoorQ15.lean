/- A part of the proof. -/
import Derived.Test.YtoomapkcoibmhaaGreatDoorQ3
import Derived.Test.YtoomapkcoibmhaaGreatDoorQ14
set_option maxRecDepth 100000
set_option maxHeartbeats 12800000
set_option linter.all false
section
open Go Go.Proofs Go.RowKit Go.Shelf Ck
namespace Go.Proofs.YtoomapkcoibmhaaGreatDoor
def ow (w:World) (lo:Nat) (g:Nat):Prop:=lo≤g∧g<w.heap.size∧∀(k:Nat) (l:List Bytes),levels[k]? = some l→∃b c,w.cell? ⟨g,k,none⟩=some (.slice (some ⟨b,0,none⟩) l.length c)∧lo≤b∧b<w.heap.size∧∀j,j<l.length→w.cell? ⟨b,j,none⟩=some (.string ⟨(l.getD j []).toArray⟩)
theorem ow.fr {w w':World} {lo g:Nat} {S:List Nat} (h:ow w lo g) (hf:Fr S w w') (hS:∀x∈S,x<lo):ow w' lo g:=by
 obtain⟨h1,h2,h3⟩:=h
 refine⟨h1,hf.lt h2,fun k l hl=>?_⟩;obtain⟨b,c,k1,k2,k3,k4⟩:=h3 k l hl
 exact⟨b,c,hf.cell k1 (fun hm=>by have:=hS _ hm;simp at this;omega),k2,hf.lt k3,fun j hj=>hf.cell (k4 j hj) (fun hm=>by have:=hS _ hm;simp at this;omega)⟩
theorem oz (w:World):Calls Tryz.prog 261 #[] w fun e w'=>∃g,e=.returned (.slice (some ⟨g,0,none⟩) 6 6)∧Fr [] w w'∧ow w' w.heap.size g:=by
 go_enter Tryz.func261,Tryz.ntmps261;go_wp2;go_ret;refine⟨_,rfl,(((((((Fr.refl _ _).alloc _).alloc _).alloc _).alloc _).alloc _).alloc _).alloc _,by omega,by simp,fun k l hl=>?_⟩
 match k,hl with
 | 0,hl=>obtain rfl:=Option.some.inj hl;exact⟨w.heap.size,1,by simp[go_sem],by omega,by simp;omega,fun j hj=>by obtain rfl:j=0:=(by simp at hj;omega);simp[go_sem]⟩
 | 1,hl=>obtain rfl:=Option.some.inj hl;exact⟨w.heap.size+1,1,by simp[go_sem],by omega,by simp,fun j hj=>by obtain rfl:j=0:=(by simp at hj;omega);simp[go_sem]⟩
 | 2,hl=>obtain rfl:=Option.some.inj hl;exact⟨w.heap.size+1+1,1,by simp[go_sem],by omega,by simp,fun j hj=>by obtain rfl:j=0:=(by simp at hj;omega);simp[go_sem]⟩
 | 3,hl=>obtain rfl:=Option.some.inj hl;exact⟨w.heap.size+1+1+1,2,by simp[go_sem],by omega,by simp,fun j hj=>by obtain rfl|rfl:j=0∨j=1:=(by simp at hj;omega)<;>simp[go_sem]⟩
 | 4,hl=>obtain rfl:=Option.some.inj hl;exact⟨w.heap.size+1+1+1+1,2,by simp[go_sem],by omega,by simp,fun j hj=>by obtain rfl|rfl:j=0∨j=1:=(by simp at hj;omega)<;>simp[go_sem]⟩
 | 5,hl=>obtain rfl:=Option.some.inj hl;exact⟨w.heap.size+1+1+1+1+1,4,by simp[go_sem],by omega,by simp,fun j hj=>by obtain rfl|rfl|rfl|rfl:j=0∨j=1∨j=2∨j=3:=(by simp at hj;omega)<;>simp[go_sem]⟩
 | k+6,hl=>simp[levels]at hl
abbrev mQ (S:jf) (m:Nat→Ck.P Tree):Prop:=∀(k a:Nat) (w:World) (r:Except dS (Tree × TS)),k≤6→PS S a w→m k (S.ts a)=some r →
  Calls Tryz.prog 258 #[.pointer (some ⟨S.bp,0,none⟩),.int .i64 k] w (Rv S w w.heap.size r)
theorem mQ.ok {S:jf} {m:Nat→Ck.P Tree} (h:mQ S m):Lu S m:=fun k a w T ts' hk hp hm=>h k a w _ hk hp hm
theorem mQ.er {S:jf} {m:Nat→Ck.P Tree} (h:mQ S m):Lv S m:=fun k a w f hk hp hm=>h k a w _ hk hp hm
theorem MJ {S:jf} {r:Rec} {n:Nat} (ihl:mQ S r.level) (Vq:iU 286 S r.unary):mQ S (lN S.F r n):=by
 intro k a w res hk h hm;have hbp:=h.blk.lt;unfold lN at hm;cases hl:levels[k]? with
 | none =>
  obtain rfl:k=6:=by have:=List.getElem?_eq_none_iff.1 hl;simp[levels]at this;omega
  rw[hl]at hm
  simp only at hm;cases res with
  | error f =>
   go_enter Tryz.func258,Tryz.ntmps258
   go_wp2_with (first|(go_at_call 261;refine(oz _).mono ?_;rintro e w1 ⟨g,rfl,hf1,hL⟩)|(go_at_call 286;refine(Vq _ _ _ (h.fr hf1) hm).mono ?_;rintro e w2 ⟨rfl,hf2⟩))
   exact⟨rfl,rfl,hf1.nil.trans hf2⟩
  | ok p =>
   obtain⟨T,ts'⟩:=p
   go_enter Tryz.func258,Tryz.ntmps258
   go_wp2_with (first|(go_at_call 261;refine(oz _).mono ?_;rintro e w1 ⟨g,rfl,hf1,hL⟩)|(go_at_call 286;refine(Vq _ _ _ (h.fr hf1) hm).mono ?_;rintro e w2 ⟨b2,a2,rfl,rfl,aG,hf2,hs2⟩))
   go_ret;exact⟨b2,a2,rfl,rfl,aG,hf1.nil.trans hf2,hs2.wide hf1.size (Nat.le_refl _)⟩
 | some l =>
  have hk6:k<6:=by have:=(List.getElem?_eq_some_iff.1 hl).1;simpa[levels]using this
  rw[hl]at hm
  simp only at hm;have hkc:((k+1:Nat):Int)=(k:Int)+1:=by omega
  have hne:((k:Int)==6)=false:=by simp;omega
  obtain⟨e,hm1,rfl⟩|⟨E,xg,hm1,hm⟩:=bind_some hm
  ·have ih1:=fun W hW=>ihl (k+1) a W _ (by omega) hW hm1
   rw[hkc]at ih1
   clear hkc;go_enter Tryz.func258,Tryz.ntmps258
   go_wp2_with (first|(go_at_call 261;refine(oz _).mono ?_;rintro e w1 ⟨g,rfl,hf1,hL⟩)|(go_at_call 258;refine(ih1 _ (h.fr hf1)).mono ?_;rintro e w2 ⟨rfl,hf2⟩))
   exact⟨rfl,rfl,hf1.nil.trans hf2⟩
  ·have ih1:=fun W hW=>ihl (k+1) a W _ (by omega) hW hm1
   rw[hkc]at ih1
   have fM:=Lib.hid hm;clear hm hm1;go_enter Tryz.func258,Tryz.ntmps258
   go_wp2_with (first|(go_at_call 261;refine(oz _).mono ?_;rintro e w1 ⟨g,rfl,hf1,hL⟩)|(go_at_call 258;refine(ih1 _ (h.fr hf1)).mono ?_;rintro e w2 ⟨b2,a2,rfl,rfl,aG,hf2,hs2⟩))
   have hw1:=hf1.size;have hL2:=hL.fr hf2 (by simp;omega)
   go_loopg [6] n (fun i v wr=>∃b,v=.pointer (some ⟨b,0,none⟩)∧Hid (∃E a,qN S.F r k l i E (S.ts a)=some res∧PS S a wr∧Fr [S.bp] w wr∧Sp wr w.heap.size wr.heap.size b E∧ow wr w.heap.size g))
   case atStart=>exact⟨b2,rfl,E,a2,fM.out,aG,hf1.nil.trans hf2,hs2.wide hw1 (Nat.le_refl _),hL2⟩
   case round =>
    clear aG hf2 hs2 hL hL2 fM hf1;obtain⟨b,rfl,hq⟩:=hrel
    obtain⟨E,a,hm,hps,hf,hs,hL⟩:=hq.out
    clear hq;have hbw:=hf.size;cases gk with
    | zero=>cases hm
    | succ i =>
     simp only[qN]at hm;obtain⟨g1,g2,g3⟩:=hL
     obtain⟨bl,cl,k1,k2,k3,k4⟩:=g3 k l hl
     have hv:bO wr (.slice (some ⟨bl,0,none⟩) l.length cl) l:=.inr ⟨bl,cl,rfl,k3,k4⟩
     have Tf:l.length≤9223372036854775807:=by
      have h4:∀x∈levels,x.length≤4:=by decide
      have:=h4 l (List.mem_of_getElem? hl)
      omega
     have hL0:ow wr w.heap.size g:=⟨g1,g2,g3⟩
     have hx0:(0:Int)≤(k:Int):=Int.natCast_nonneg k;have hx6:(k:Int)<6:=by omega
     clear g3 k4;obtain⟨e,hm1,rfl⟩|⟨c,xg,hm1,hm⟩:=bind_some hm
     ·have c1:=mE hps hv Tf hm1;clear hm1 hL0 hl
      go_wp2_with (go_at_call 72;refine c1.mono ?_;rintro e w1 ⟨rfl,hf1⟩)
      exact⟨rfl,rfl,hf.trans hf1⟩
     have c1:=iT hps hv Tf hm1;cases c
     ·simp only[Bool.false_eq_true,if_false,aZ,Option.some.injEq]at hm;subst hm;clear hm1 hl
      go_wp2_with (go_at_call 72;refine c1.mono ?_;rintro e w1 ⟨rfl,rfl,aA,hf1⟩;clear c1)
      go_ret;exact⟨b,a,rfl,rfl,aA,hf.trans hf1.nil,(hs.fr hf1 (by simp) (Nat.le_refl _)).wide (Nat.le_refl _) hf1.size⟩
     ·simp only[if_true]at hm;obtain⟨e,hm2,rfl⟩|⟨E',tL,hm2,hm⟩:=bind_some hm
      ·have c2:=fun a' W (hW:PS S a' W) (ha:xg=S.ts a')=>OV (r:=r) ihl.er (a:=a') (w:=W) hW (k:=k+1) (by omega) (L:=E) (bl:=b) (by rw[←ha];exact hm2)
       rw[hkc]at c2
       clear hm1 hm2 hl hkc
       go_wp2_with (first|(go_at_call 72;refine c1.mono ?_;rintro e w1 ⟨rfl,ha1,aA,hf1⟩;clear c1)|(go_at_call 259;refine(c2 a _ aA ha1).mono ?_;rintro e w2 ⟨rfl,hf2⟩))
       exact⟨rfl,rfl,(hf.trans hf1.nil).trans hf2⟩
      have c2:=fun a' W (hW:PS S a' W) (ha:xg=S.ts a') (hE:Sp W w.heap.size wr.heap.size b E) (hS:wr.heap.size≤W.heap.size)=>OU (r:=r) ihl.ok (a:=a') (w:=W) hW (k:=k+1) (by omega) (L:=E) hE (by omega) hS (by rw[←ha];exact hm2)
      rw[hkc]at c2
      have HM:=Lib.hid hm;clear hm hm1 hm2 hl hkc
      go_wp2_with (first|(go_at_call 72;refine c1.mono ?_;rintro e w1 ⟨rfl,ha1,aA,hf1⟩;clear c1)|(go_at_call 259;refine(c2 a _ aA ha1 (hs.fr hf1 (by simp) (Nat.le_refl _)) hf1.size).mono ?_;rintro e w2 ⟨b2,a2,rfl,rfl,aG,hf2,hs2⟩;clear c2))
      go_roundg i
      case measure=>omega
      case rel=>exact⟨_,rfl,E',a2,HM.out,aG,(hf.trans hf1.nil).trans hf2,hs2,(hL0.fr hf1 (by simp)).fr hf2 (by simp;omega)⟩
theorem Ry {S:jf} {r:Rec} (ihn:iU 217 S r.not') (ihl:mQ S r.level):iU 217 S (Mv S.F r):=by
 intro a w res h hm;unfold Mv at hm;have hbp:=h.blk.lt;have bg:=h.fr ((Fr.refl [] w).alloc (.cells #[.string ⟨#[110,111,116]⟩] 9));have hv:=str1 w [110,111,116];obtain⟨e,hm1,rfl⟩|⟨c,xg,hm1,hm⟩:=bind_some hm
 ·have c1:=mE bg hv (by simp) hm1;go_enter Tryz.func217,Tryz.ntmps217
  go_wp2_with (go_at_call 72;refine c1.mono ?_;rintro e w1 ⟨rfl,hf1⟩)
  exact⟨rfl,rfl,((Fr.refl _ w).alloc _).trans hf1⟩
 have c1:=iT bg hv (by simp) hm1;cases c
 ·simp only[Bool.false_eq_true,if_false]at hm;obtain⟨e,hm2,rfl⟩|⟨E,tL,hm2,hm⟩:=bind_some hm
  ·go_enter Tryz.func217,Tryz.ntmps217
   go_wp2_with (first|(go_at_call 72;refine c1.mono ?_;rintro e w1 ⟨rfl,rfl,aA,hf1⟩;clear c1)|(go_at_call 258;refine(ihl 0 _ _ _ (by omega) aA hm2).mono ?_;rintro e w2 ⟨rfl,hf2⟩))
   exact⟨rfl,rfl,(((Fr.refl _ w).alloc _).trans hf1.nil).trans hf2⟩
  clear hm1;have hL6:∀W:World,bO (W.alloc (.cells #[.string ⟨#[61,61]⟩,.string ⟨#[33,61]⟩,.string ⟨#[60]⟩,.string ⟨#[60,61]⟩,.string ⟨#[62]⟩,.string ⟨#[62,61]⟩] 9)) (.slice (some ⟨W.heap.size,0,none⟩) 6 6) [[61,61],[33,61],[60],[60,61],[62],[62,61]]:=fun W=>Rx W [[61,61],[33,61],[60],[60,61],[62],[62,61]]
  obtain⟨e,dH,rfl⟩|⟨c,wR,dH,hm⟩:=bind_some hm
  ·go_enter Tryz.func217,Tryz.ntmps217
   go_wp2_with (first|(go_at_call 72;refine c1.mono ?_;rintro e w1 ⟨rfl,rfl,aA,hf1⟩;clear c1)|(go_at_call 258;refine(ihl 0 _ _ _ (by omega) aA hm2).mono ?_;rintro e w2 ⟨b2,a2,rfl,rfl,aG,hf2,hs2⟩;clear hm2)|(go_at_call 72;refine(mE (aG.fr ((Fr.refl [] _).alloc _)) (hL6 _) (by simp) dH).mono ?_;rintro e w3 ⟨rfl,hf3⟩))
   exact⟨rfl,rfl,((((((Fr.refl _ w).alloc _).trans hf1.nil).trans hf2).alloc _).trans hf3)⟩
  cases c
  ·simp only[Bool.false_eq_true,if_false,aZ,Option.some.injEq]at hm;subst hm;go_enter Tryz.func217,Tryz.ntmps217
   go_wp2_with (first|(go_at_call 72;refine c1.mono ?_;rintro e w1 ⟨rfl,rfl,aA,hf1⟩;clear c1)|(go_at_call 258;refine(ihl 0 _ _ _ (by omega) aA hm2).mono ?_;rintro e w2 ⟨b2,a2,rfl,rfl,aG,hf2,hs2⟩;clear hm2)|(go_at_call 72;refine(iT (aG.fr ((Fr.refl [] _).alloc _)) (hL6 _) (by simp) dH).mono ?_;rintro e w3 ⟨rfl,rfl,bY,hf3⟩;clear dH))
   go_ret;have hfa:Fr [S.bp] w w1:=((Fr.refl _ w).alloc _).trans hf1.nil;have Rc:Fr [] w2 w3:=((Fr.refl _ w2).alloc _).trans hf3;exact⟨b2,a2,rfl,rfl,bY,(hfa.trans hf2).trans Rc.nil,(hs2.fr Rc (by simp) (Nat.le_refl _)).wide hfa.size Rc.size⟩
  ·simp only[if_true]at hm;cases res with
   | error f =>
    go_enter Tryz.func217,Tryz.ntmps217
    go_wp2_with (first|(go_at_call 72;refine c1.mono ?_;rintro e w1 ⟨rfl,rfl,aA,hf1⟩;clear c1)|(go_at_call 258;refine(ihl 0 _ _ _ (by omega) aA hm2).mono ?_;rintro e w2 ⟨b2,a2,rfl,rfl,aG,hf2,hs2⟩;clear hm2)|(go_at_call 72;refine(iT (aG.fr ((Fr.refl [] _).alloc _)) (hL6 _) (by simp) dH).mono ?_;rintro e w3 ⟨rfl,rfl,bY,hf3⟩;clear dH)|(go_at_call 259;refine(OV ihl.er bY (by omega) hm).mono ?_;rintro e w4 ⟨rfl,eY⟩))
    exact⟨rfl,rfl,(((((((Fr.refl _ w).alloc _).trans hf1.nil).trans hf2).alloc _).trans hf3.nil).trans eY)⟩
   | ok p =>
    obtain⟨T,ts'⟩:=p
    go_enter Tryz.func217,Tryz.ntmps217
    go_wp2_with (first|(go_at_call 72;refine c1.mono ?_;rintro e w1 ⟨rfl,rfl,aA,hf1⟩;clear c1)|(go_at_call 258;refine(ihl 0 _ _ _ (by omega) aA hm2).mono ?_;rintro e w2 ⟨b2,a2,rfl,rfl,aG,hf2,hs2⟩;clear hm2)|(go_at_call 72;refine(iT (aG.fr ((Fr.refl [] _).alloc _)) (hL6 _) (by simp) dH).mono ?_;rintro e w3 ⟨rfl,rfl,bY,hf3⟩;clear dH)|(go_at_call 259;refine(OU ihl.ok bY (by omega) (hs2.fr (((Fr.refl [] w2).alloc _).trans hf3) (by simp) (Nat.le_refl _)) (by have:=hf1.size;simp at this;omega) (((Fr.refl [] w2).alloc _).trans hf3).size hm).mono ?_;rintro e w4 ⟨b4,a4,rfl,rfl,fT,eY,hs4⟩;clear hm))
    go_ret;have hfa:Fr [S.bp] w w1:=((Fr.refl _ w).alloc _).trans hf1.nil;have Rc:Fr [] w2 w3:=((Fr.refl _ w2).alloc _).trans hf3;exact⟨b4,a4,rfl,rfl,fT,((hfa.trans hf2).trans Rc.nil).trans eY,hs4.wide hfa.size (Nat.le_refl _)⟩
 ·simp only[if_true]at hm;obtain⟨e,hm2,rfl⟩|⟨at',tL,hm2,hm⟩:=bind_some hm
  ·go_enter Tryz.func217,Tryz.ntmps217
   go_wp2_with (first|(go_at_call 72;refine c1.mono ?_;rintro e w1 ⟨rfl,rfl,aA,hf1⟩;clear c1)|(go_at_call 43;refine(gQ aA hm2).mono ?_;rintro e w2 ⟨rfl,hf2⟩))
   exact⟨rfl,rfl,(((Fr.refl _ w).alloc _).trans hf1.nil).trans hf2⟩
  obtain⟨e,dH,rfl⟩|⟨G,wR,dH,hm⟩:=bind_some hm
  ·go_enter Tryz.func217,Tryz.ntmps217
   go_wp2_with (first|(go_at_call 72;refine c1.mono ?_;rintro e w1 ⟨rfl,rfl,aA,hf1⟩;clear c1)|(go_at_call 43;refine(dZ aA hm2).mono ?_;rintro e w2 ⟨rfl,a2,rfl,aG,hf2⟩;clear hm2)|(go_at_call 217;refine(ihn _ _ _ aG dH).mono ?_;rintro e w3 ⟨rfl,hf3⟩))
   exact⟨rfl,rfl,((((Fr.refl _ w).alloc _).trans hf1.nil).trans hf2).trans hf3⟩
  rw[aZ]at hm
  simp only[Option.some.injEq]at hm;subst hm;go_enter Tryz.func217,Tryz.ntmps217
  go_wp2_with (first|(go_at_call 72;refine c1.mono ?_;rintro e w1 ⟨rfl,rfl,aA,hf1⟩;clear c1)|(go_at_call 43;refine(dZ aA hm2).mono ?_;rintro e w2 ⟨rfl,a2,rfl,aG,hf2⟩;clear hm2)|(go_at_call 217;refine(ihn _ _ _ aG dH).mono ?_;rintro e w3 ⟨b3,a3,rfl,rfl,bY,hf3,hs3⟩;clear dH)|(go_at_call 39;refine(aK _ _ _ _ _ ⟨_,_,_,rfl⟩).mono ?_;rintro e w4 ⟨rfl,rfl⟩))
  go_ret;have hfa:Fr [S.bp] w w2:=(((Fr.refl _ w).alloc _).trans hf1.nil).trans hf2;have hM:=(Kids.one hs3 (Nat.le_refl _)).made ⟨20,at',0,[],0,0⟩ 0 (by simp) hf3.size;refine⟨_,a3,rfl,rfl,bY.fr (((Fr.refl _ _).alloc _).alloc _),((hfa.trans hf3).alloc _).alloc _,?_⟩;have hM':=hM.wide (lo':=w.heap.size) (hi':=w3.heap.size+1+1) hfa.size (Nat.le_refl _);simpa[aj,ptrs,cZ,leaf]using hM'
theorem PS.Gy {w:World} {s:Bytes} {W:World} (h:BI w (aM s).1 (aM s).2 W) :
  ∃S:jf,S.toks=(aM s).1∧S.F=(aM s).2∧S.bp=w.heap.size∧PS S 0 W∧Fr [] w W:=by
 obtain⟨⟨vt,vo,h1,h2,h3⟩,h4,h5,h6,h7⟩:=h
 exact⟨⟨(aM s).1,(aM s).2,vt,vo,w.heap.size⟩,rfl,rfl,rfl,⟨h1,gZ h2 (by simp),gZ h3 (by simp),by have:=qV s;simp;omega,Nat.zero_le _⟩,h6⟩
theorem Tryz.infoSprout:(Tryz.prog.info? 55).map (fun i=>(i.zero,i.size,i.bytes))=some (some (.pointer none),1,8):=by kernel_rfl
theorem iw.Lx {w w':World} {hi b:Nat} {g:Option Nat}:∀{ks:List Tree} {bs:List Nat} {lo:Nat},iw w lo hi b g bs ks→(∀k,lo≤k→k<hi→k≠b→g≠some k→w'.heap[k]? = w.heap[k]?)→iw w' lo hi b g bs ks
 | [],bs,lo,h,_=>by simp only[iw]at h ⊢;exact h
 | t::ts,bs,lo,h,hk=>by
  simp only[iw]at h ⊢;obtain⟨x,xs,l,hh,e,a1,a2,a3,a4,a5,a6,a7⟩:=h
  exact⟨x,xs,l,hh,e,a1,a2,a3,a4,a5,a6.keep (fun k k1 k2=>hk k (by omega) (by omega) (by omega) (fun e=>by have:=a5 k e;omega)) (Nat.le_refl _) (Nat.le_refl _),iw.Lx a7 (fun k k1 k2 k3 k4=>hk k (by omega) k2 k3 k4)⟩
structure Gr (w:World) (lo c:Nat) (n:Ck.Node) (bs:List Nat) (ks:List Tree) (vk:Value):Prop where
 blk:au w c (aj n 0 vk) 90
 row:w.ownsRow (c+1) 55 1 vk ks.length (ptrs bs)
 kids:∃hi,hi≤w.heap.size∧iw w lo hi c vk.ownBlock bs ks
 lo:lo≤c
theorem Gr.new (w:World) (lo:Nat) (n:Ck.Node) (h:lo≤w.heap.size):Gr (w.alloc (.cells (aj n 0 (.slice none 0 0)) 90)) lo w.heap.size n [] [] (.slice none 0 0) :=
 ⟨au.new w _ _,⟨rfl,.inl ⟨rfl,rfl⟩⟩,⟨lo,by simp;omega,iw.none (Nat.le_refl _)⟩,h⟩
theorem Gr.fr {S:List Nat} {w w':World} {lo c:Nat} {n:Ck.Node} {bs:List Nat} {ks:List Tree} {vk:Value} (h:Gr w lo c n bs ks vk) (hf:Fr S w w') (hS:∀x∈S,x<lo):Gr w' lo c n bs ks vk:=by
 obtain⟨hi,h1,h2⟩:=h.kids
 have hl:=h.lo;exact⟨h.blk.fr hf (fun hm=>by have:=hS c hm;omega),aF h.row hf (fun x hx=>by have:=hS x hx;omega),⟨hi,by have:=hf.size;omega,h2.keep (fun k k1 k2=>hf.block k (by omega) (fun hm=>by have:=hS k hm;omega)) (Nat.le_refl _) (Nat.le_refl _)⟩,hl⟩
theorem Gr.sp {w:World} {lo c:Nat} {n:Ck.Node} {bs:List Nat} {ks:List Tree} {vk:Value} (h:Gr w lo c n bs ks vk):Sp w lo w.heap.size c (.mk n ks):=by
 obtain⟨hi,h1,h2⟩:=h.kids
 simp only[Sp];exact⟨h.lo,h.blk.lt,0,vk,bs,h.blk,gZ h.row (by have:=h.lo;omega),fun g hg=>(h.row.lt g hg).2,h2.wide (Nat.le_refl _) h1⟩
theorem Gr.push {S:List Nat} {w w2 w3:World} {lo c b g' cap':Nat} {n:Ck.Node} {bs:List Nat} {ks:List Tree} {vk:Value} {T:Tree} {o:Obj} (h:Gr w lo c n bs ks vk) (hf:Fr S w w2) (hS:∀x∈S,x<lo) (ht:Sp w2 w.heap.size w2.heap.size b T)
  (hown:w3.ownsRow (c+1) 55 1 (.slice (some ⟨g',0,none⟩) (ks.length+1) cap') (ks.length+1) (ptrs bs++[cZ b])) (hg:(w2.alloc o).grownBy w3 vk.ownBlock) (hat:vk.ownBlock=some g'∨w2.heap.size≤g') :
  Gr (Ck.blk w3 c (aj n 0 (.slice (some ⟨g',0,none⟩) (ks.length+1) cap')) 90) lo c n (bs++[b]) (ks++[T]) (.slice (some ⟨g',0,none⟩) (ks.length+1) cap'):=by
 have h2:=h.fr hf hS;have hx:=ht.lt;have hc:=h.blk.lt;have hz:=hf.size;have hlo:=h.lo;have hz3:=hg.size;simp only[World.size_alloc]at hz3;obtain⟨hi,k1,k2⟩:=h.kids
 have hlt:∀k,vk.ownBlock=some k→c+1≤k∧k<w.heap.size:=fun k hk=>h.row.lt k hk
 have k3:iw w2 lo hi c vk.ownBlock bs ks:=k2.keep (fun k q1 q2=>hf.block k (by omega) (fun hm=>by have:=hS k hm;omega)) (Nat.le_refl _) (Nat.le_refl _)
 have hX:∀k,k<w2.heap.size→k≠c→vk.ownBlock≠some k→(Ck.blk w3 c (aj n 0 (.slice (some ⟨g',0,none⟩) (ks.length+1) cap')) 90).heap[k]? = w2.heap[k]?:=fun k q2 q3 q4=>by
  rw[bH q3,hg.block k (by simp;omega) (fun e=>q4 e.symm)];exact Below.heap_alloc w2 o k (by omega)
 have k3':=iw.Lx k3 (fun k q1 q2 q3 q4=>hX k (by omega) q3 q4);have ht':=ht.keep (fun k q1 q2=>hX k q2 (by omega) (fun e=>by have:=hlt k e;omega)) (Nat.le_refl _) (Nat.le_refl _);refine⟨au.blk (by omega),by simpa[ptrs]using eB hown (by omega),⟨w2.heap.size,by rw[aB];omega,?_⟩,hlo⟩;refine iw.snoc (g:=vk.ownBlock) k1 ht' (by omega) (.inl hc) (fun k e=>?_) (fun k e=>?_) k3'
 ·obtain rfl:g'=k:=by simpa[Value.ownBlock]using e
  rcases hat with h1|h1
  ·exact .inl (hlt _ h1).2
  ·exact .inr h1
 ·obtain rfl:g'=k:=by simpa[Value.ownBlock]using e
  rcases hat with h1|h1
  ·exact .inl h1
  ·exact .inr (by omega)
theorem Gr.step {S:jf} {w w1 w2 w3:World} {a0 a2 c b g' cap':Nat} {n:Ck.Node} {bs:List Nat} {ks:List Tree} {vk:Value} {T:Tree} {o:Obj} (h0:PS S a0 w) (h:Gr w1 w.heap.size c n bs ks vk) (hf1:Fr [S.bp] w w1) (hf2:Fr [S.bp] w1 w2)
  (hps:PS S a2 w2) (ht:Sp w2 w1.heap.size w2.heap.size b T)
  (hown:w3.ownsRow (c+1) 55 1 (.slice (some ⟨g',0,none⟩) (ks.length+1) cap') (ks.length+1) (ptrs bs++[cZ b])) (hg:(w2.alloc o).grownBy w3 vk.ownBlock) (hat:vk.ownBlock=some g'∨g'=(w2.alloc o).heap.size) :
  PS S a2 (Ck.blk w3 c (aj n 0 (.slice (some ⟨g',0,none⟩) (ks.length+1) cap')) 90)∧Fr [S.bp] w (Ck.blk w3 c (aj n 0 (.slice (some ⟨g',0,none⟩) (ks.length+1) cap')) 90) ∧
  Gr (Ck.blk w3 c (aj n 0 (.slice (some ⟨g',0,none⟩) (ks.length+1) cap')) 90) w.heap.size c n (bs++[b]) (ks++[T]) (.slice (some ⟨g',0,none⟩) (ks.length+1) cap'):=by
 have hbp:=h0.blk.lt;have hlo:=h.lo;have hlt:=h.row.lt
 have hF:Fr [S.bp] w (Ck.blk w3 c (aj n 0 (.slice (some ⟨g',0,none⟩) (ks.length+1) cap')) 90) :=
  (((hf1.trans hf2).alloc _).grown hg (fun k e=>.inr (by have:=(hlt k e).1;omega))).blk (.inr hlo) _ _
 refine⟨h0.go hF ?_ hps.ha,hF,Gr.push h hf2 (by simp;omega) ht hown hg (hat.imp id (fun e=>by rw[e];simp))⟩;refine au.aL ((hps.blk.alloc _).grown hg (fun e=>?_)) (by omega)
 have:=(hlt _ e).1;omega
theorem lT {S:jf} {a b lo hi:Nat} {w:World} {E T:Tree} {ts':TS} (h:PS S a w) (hE:Sp w lo hi b E) (hlo:S.bp<lo) (hhi:hi≤w.heap.size) (hm:mO S.F E (S.ts a)=some (.ok (T,ts'))) :
  Calls Tryz.prog 153 #[.pointer (some ⟨S.bp,0,none⟩),.pointer (some ⟨b,0,none⟩)] w (Vo S w lo T ts'):=by
 unfold mO at hm;obtain⟨e,_,h0⟩|⟨v,xg,hm1,hm⟩:=bind_some hm
 ·cases h0
 rw[aZ]at hm
 simp only[Option.some.injEq,Except.ok.injEq,Prod.mk.injEq]at hm;obtain⟨rfl,rfl⟩:=hm
 go_enter Tryz.func153,Tryz.ntmps153
 go_wp2_with (go_at_call 43;refine(dZ h hm1).mono ?_;rintro e w1 ⟨rfl,a1,rfl,aA,hf1⟩)
 go_ret;exact⟨b,a1,rfl,rfl,aA,hf1,(hE.fr hf1 (by simp;omega) hhi).wide (Nat.le_refl _) (by have:=hf1.size;omega)⟩
theorem lU {S:jf} {a b:Nat} {w:World} {E:Tree} {f:dS} (h:PS S a w) (hm:mO S.F E (S.ts a)=some (.error f)) :
  Calls Tryz.prog 153 #[.pointer (some ⟨S.bp,0,none⟩),.pointer (some ⟨b,0,none⟩)] w (Er S w f):=by
 unfold mO at hm;obtain⟨e,hm1,h0⟩|⟨v,xg,hm1,hm⟩:=bind_some hm
 ·cases h0;go_enter Tryz.func153,Tryz.ntmps153
  go_wp2_with (go_at_call 43;refine(gQ h hm1).mono ?_;rintro e w1 ⟨rfl,hf1⟩)
  exact⟨rfl,rfl,hf1⟩
 ·cases hm
theorem xk {α β:Type} {x:Ck.P α} {f:α→β} {ts:TS} {r:Except dS (β × TS)} (h:(x >>= fun y=>pure (f y)) ts=some r) :
  ∃R,x ts=some R∧r=match R with | .error e=>.error e | .ok (y,t)=>.ok (f y,t):=by
 obtain⟨e,h1,rfl⟩|⟨y,t,h1,h2⟩:=bind_some h
 ·exact⟨_,h1,rfl⟩
 ·rw[aZ]at h2
  exact⟨_,h1,(Option.some.inj h2).symm⟩
theorem jf.tJ (S:jf) (a:Nat):(S.ts a).length=S.toks.length-a:=by simp[jf.ts,nO]
theorem MK {S:jf} {r:Rec} {n:Nat} (hcon:aR 1 r.statement) (ihs:iU 103 S r.statement):iU 73 S (uI S.F r n):=by
 intro a w res h hm;have hbp:=h.blk.lt;have hlim:=h.lim;obtain⟨i0,hi,hz0,hz1,hz2⟩:=info_parts Tryz.infoSprout
 unfold uI at hm;obtain⟨e,hm1,rfl⟩|⟨at',xg,hm1,hm⟩:=bind_some hm
 ·go_enter Tryz.func73,Tryz.ntmps73
  go_wp2_with (go_at_call 43;refine(gQ h hm1).mono ?_;rintro e w1 ⟨rfl,hf1⟩)
  exact⟨rfl,rfl,hf1⟩
 obtain⟨R,hm2,hres⟩:=xk hm
 have HR:=Lib.hid hres;have HM:=Lib.hid hm2;clear hm hres hm2;go_enter Tryz.func73,Tryz.ntmps73
 go_wp2_with (first|(go_at_call 43;refine(dZ h hm1).mono ?_;rintro e w1 ⟨rfl,a1,rfl,aA,hf1⟩;clear hm1)|(go_at_call 39;refine(aK _ _ _ _ _ ⟨_,_,_,rfl⟩).mono ?_;rintro e w4 ⟨rfl,rfl⟩))
 have hw1:=hf1.size;obtain⟨c,hc⟩:∃c,Hid (c=w1.heap.size):=⟨_,rfl⟩
 rw[←hc.out]
 go_loopg [] n (fun k wr=>Hid (∃ks bs vk a,rU S.F r k ks (S.ts a)=some R∧ks.length+(S.ts a).length≤70000∧PS S a wr∧Fr [S.bp] w wr∧Gr wr w.heap.size c ⟨5,at',0,[],0,0⟩ bs ks vk))
 case atStart =>
  apply Lib.hid;refine⟨[],[],.slice none 0 0,a1,HM.out,by rw[jf.tJ];simp;omega,aA.fr ((Fr.refl [] _).alloc _),hf1.alloc _,?_⟩;rw[hc.out];exact Gr.new w1 w.heap.size ⟨5,at',0,[],0,0⟩ hw1
 case round =>
  clear aA hf1 HM;obtain⟨ks,bs,vk,a,hm,hln,hps,hf,hG⟩:=hrel.out
  clear hrel;have hbw:=hf.size;cases gk with
  | zero=>cases hm
  | succ k =>
   simp only[rU]at hm;obtain⟨e,hm1,rfl⟩|⟨q,xg,hm1,hm⟩:=bind_some hm
   ·go_wp2_with (go_at_call 41;refine(ku hps hm1).mono ?_;rintro e w1 ⟨rfl,hf1⟩)
    rw[HR.out];exact⟨rfl,rfl,hf.trans hf1⟩
   have c1:=dQ hps hm1;have hl1:=eF S.F 3 [125] _ _ _ hm1;clear hm1;cases q
   ·simp only[Bool.false_eq_true,if_false]at hm;obtain⟨e,hm2,rfl⟩|⟨T,tL,hm2,hm⟩:=bind_some hm
    ·go_wp2_with (go_at_call 41;refine c1.mono ?_;rintro e w1 ⟨rfl,a1,rfl,aA,hf1⟩;clear c1)
     have hG1:=hG.fr hf1 (by simp;omega);obtain⟨kc,kz,aH,kb⟩:=hG1.blk.rules
     simp only[aj]at kc aH
     go_region_dies
     all_goals (go_at_call 103;refine(ihs _ _ _ (aA.fr (Fr.refl [] _).drew) hm2).mono ?_;rintro e w2 ⟨rfl,hf2⟩)
     all_goals rw[HR.out]
     all_goals exact⟨rfl,rfl,((hf.trans hf1).drew).trans hf2⟩
    have hl2:=hcon _ _ _ hm2;have HM:=Lib.hid hm;clear hm
    go_wp2_with (go_at_call 41;refine c1.mono ?_;rintro e w1 ⟨rfl,a1,rfl,aA,hf1⟩;clear c1)
    have hG1:=hG.fr hf1 (by simp;omega);obtain⟨kc,kz,aH,kb⟩:=hG1.blk.rules
    simp only[aj]at kc aH;have hw1:=hf1.size
    go_region_law (first|(refine step_append_lies _ rfl _ _ 88 rfl (c+1) 55 i0 (.pointer none) 1 8 Tryz.underlying88 hi hz0 hz1 hz2 rfl (by decide) vk ks.length (ptrs bs) rfl (by exact aF hG2.row ((Fr.refl [] _).alloc _) (by simp)) ⟨w2.heap.size,0,none⟩ 1 1 [cZ b2] rfl rfl (World.news_of_block (au.new _ _ _)) (by simp[Value.oneCell',cZ]) (by omega) (by simp[maxLen];omega) (by omega) (by have:=hG2.blk.lt;simp;omega) _ rfl ?_;intro g' cap' w3 hown3 hg3 CQ hlt3;obtain⟨qc,qz,bS,qb⟩:=((hG2.blk.alloc _).grown hg3 (fun e=>by have:=(hG2.row.lt _ e).1;omega)).rules;simp only[aj]at qc bS)|(go_simp;go_at_call 103;refine(ihs _ _ _ (aA.fr (Fr.refl [] _).drew) hm2).mono ?_;rintro e w2 ⟨b2,a2,rfl,rfl,aG,hf2,hs2⟩;have hG2:=(hG1.fr (Fr.refl [] _).drew (by simp)).fr hf2 (by simp;omega);obtain⟨rc,rz,bE,rb⟩:=hG2.blk.rules;simp only[aj]at rc bE))
    all_goals
     go_wp2
     go_roundg k
     case measure=>omega
     case rel =>
      obtain⟨q1,q2,q3⟩:=Gr.step h hG1 (hf.trans hf1) (show Fr [S.bp] w1 w2 from(Fr.refl _ _).drew.trans hf2) aG hs2 hown3 hg3 CQ
      exact⟨ks++[T],bs++[b2],_,a2,HM.out,by simp;omega,q1,q2,q3⟩
   ·simp only[if_true,aZ,Option.some.injEq]at hm;subst hm
    go_wp2_with (go_at_call 41;refine c1.mono ?_;rintro e w1 ⟨rfl,a1,rfl,aA,hf1⟩;clear c1)
    go_ret;rw[HR.out];have hG1:=(hG.fr hf1 (by simp;omega)).sp;exact⟨c,a1,rfl,rfl,aA,hf.trans hf1,by simpa[leaf]using hG1⟩
abbrev TN (t:Tok):Value:=.agg #[.int .i64 t.kind,.int .i64 t.at',.string ⟨t.text.toArray⟩,.int .i64 t.int,.int .u64 t.bits]
abbrev aO (t:Tok):Obj:=.cells #[.int .i64 t.kind,.int .i64 t.at',.string ⟨t.text.toArray⟩,.int .i64 t.int,.int .u64 t.bits] 82
section
variable {S:jf} {a:Nat} {w:World}
theorem look_ok (h:PS S a w) {t:Tok} {ts':TS} (hm:Ck.look S.F (S.ts a)=some (.ok (t,ts'))) :
  Calls Tryz.prog 40 #[.pointer (some ⟨S.bp,0,none⟩),.int .i64 0] w fun e w'=>e=.returned (TN t)∧ts'=S.ts a∧a<S.toks.length∧PS S a w'∧Fr [] w w':=by
 rw[look_eq]at hm
 cases hl:aW S.F (S.ts a) with
 | error f=>rw[hl]at hm;cases hm
 | ok x =>
  rw[hl]at hm
  simp only[Option.some.injEq,Except.ok.injEq,Prod.mk.injEq]at hm;obtain⟨rfl,rfl⟩:=hm
  obtain⟨o,r,hts⟩:=pG hl
  exact(tX S a w h).mono fun e w' hw=>⟨by rw[hw.1,kQ hl],rfl,(S.next a hts).1,h.fr hw.2,hw.2⟩
theorem vN (h:PS S a w) {f:dS} (hm:Ck.look S.F (S.ts a)=some (.error f)) :
  Calls Tryz.prog 40 #[.pointer (some ⟨S.bp,0,none⟩),.int .i64 0] w (Er S w f):=by
 rw[look_eq]at hm
 cases hl:aW S.F (S.ts a) with
 | error g=>rw[hl]at hm;cases hm;exact(tX S a w h).mono fun e w' hw=>⟨by rw[hw.1,lS hl];rfl,hw.2.nil⟩
 | ok x=>rw[hl]at hm;cases hm
theorem OX (h:PS S a w) {t:Tok} {ts':TS} (hm:og S.F (S.ts a)=some (.ok (t,ts'))) :
  Calls Tryz.prog 40 #[.pointer (some ⟨S.bp,0,none⟩),.int .i64 1] w fun e w'=>e=.returned (TN t)∧ts'=S.ts a∧a+1<S.toks.length∧PS S a w'∧Fr [] w w':=by
 unfold og at hm;cases hl:aW S.F (S.ts a).tail with
 | error f=>rw[hl]at hm;cases hm
 | ok x =>
  rw[hl]at hm
  simp only[Option.some.injEq,Except.ok.injEq,Prod.mk.injEq]at hm;obtain⟨rfl,rfl⟩:=hm
  obtain⟨o,r,hts⟩:=pG hl
  rw[S.tail]at hts
  exact(Tc S a w h).mono fun e w' hw=>⟨by rw[hw.1,kQ hl],rfl,(S.next (a+1) hts).1,h.fr hw.2,hw.2⟩
theorem OY (h:PS S a w) {f:dS} (hm:og S.F (S.ts a)=some (.error f)) :
  Calls Tryz.prog 40 #[.pointer (some ⟨S.bp,0,none⟩),.int .i64 1] w (Er S w f):=by
 unfold og at hm;cases hl:aW S.F (S.ts a).tail with
 | error g=>rw[hl]at hm;cases hm;exact(Tc S a w h).mono fun e w' hw=>⟨by rw[hw.1,lS hl];rfl,hw.2.nil⟩
 | ok x=>rw[hl]at hm;cases hm
end
theorem ni (S:jf) (a:Nat):oU (S.ts a)=some (.ok ((),S.ts (a+1))):=by unfold oU;rw[S.tail]
theorem PS.oU {S:jf} {a:Nat} {w w1:World} (h:PS S a w) (hf:Fr [] w w1) (ha:a<S.toks.length) :
  PS S (a+1) (Ck.blk w1 S.bp #[S.vt,.int .i64 S.F.code,.int .i64 S.F.at',S.vo,.int .i64 ((a:Int)+1)] 77):=by
 have h1:=h.fr hf;exact h1.go (w':=Ck.blk w1 S.bp _ _) ((Fr.refl _ _).blk (by simp) _ _) (au.blk h1.blk.lt) ha
def TP (t:Bytes):Value:=match gY t with|some k=>.tuple #[.int .i64 k,.bool true]|none=>.tuple #[.int .i64 0,.bool false]
theorem tY (t:Bytes) (w:World):Calls Tryz.prog 307 #[.string ⟨t.toArray⟩] w fun e w'=>e=.returned (TP t)∧w'=w:=by
 go_enter Tryz.func307,Tryz.ntmps307;go_wp2
 all_goals exact bodyPost_ret (v:=TP t) (by simp[results,Tryz.results307,go_sem,TP,gY, *]) rfl ⟨rfl,rfl⟩
theorem qo {S:jf} {α:Type} {ts:TS} {r:Except dS (α × TS)} (hm:(wrong S.F:Ck.P α) ts=some r) :
  ∃f,r=.error f∧∀(W:World) (a:Nat),ts=S.ts a→PS S a W→Calls Tryz.prog 45 #[.pointer (some ⟨S.bp,0,none⟩)] W (Er S W f):=by
 have hr:∃f,r=.error f∧f=mZ S.F ts:=by
  unfold wrong at hm;obtain⟨e,h1,rfl⟩|⟨t,xg,h1,h2⟩:=bind_some hm
  ·rw[look_eq]at h1
   cases hl:aW S.F ts with
   | error g=>rw[hl]at h1;cases h1;exact⟨_,rfl,by simp[mZ,hl]⟩
   | ok x=>rw[hl]at h1;cases h1
  ·rw[look_eq]at h1
   cases hl:aW S.F ts with
   | error g=>rw[hl]at h1;cases h1
   | ok x=>rw[hl]at h1;cases h1;cases h2;exact⟨_,rfl,by simp[mZ,hl]⟩
 obtain⟨f,rfl,rfl⟩:=hr
 refine⟨_,rfl,fun W a ha hW=>?_⟩;subst ha;exact(wZ S a W hW).mono fun e w' hw=>⟨by rw[hw.1];rfl,hw.2.nil⟩
theorem PS.aaL {S:jf} {a:Nat} {w w1:World} (h:PS S a w1) (ha:a<S.toks.length) (hf:Fr [S.bp] w w1) (o:Obj) :
  PS S (a+1) ((Ck.blk w1 S.bp #[S.vt,.int .i64 S.F.code,.int .i64 S.F.at',S.vo,.int .i64 ((a:Int)+1)] 77).alloc o)∧Fr [S.bp] w ((Ck.blk w1 S.bp #[S.vt,.int .i64 S.F.code,.int .i64 S.F.at',S.vo,.int .i64 ((a:Int)+1)] 77).alloc o) :=
 ⟨(h.oU (Fr.refl [] _) ha).fr ((Fr.refl [] _).alloc o),(hf.blk (.inl (by simp)) _ _).alloc o⟩
structure PKs (S:jf) (a:Nat) (t:Tok) (w w1:World):Prop where
 ha:a<S.toks.length
 p:PS S a w1
 f:Fr [] w w1
 pA:PS S (a+1) ((Ck.blk w1 S.bp #[S.vt,.int .i64 S.F.code,.int .i64 S.F.at',S.vo,.int .i64 ((a:Int)+1)] 77).alloc (aO t))
 fA:Fr [S.bp] w ((Ck.blk w1 S.bp #[S.vt,.int .i64 S.F.code,.int .i64 S.F.at',S.vo,.int .i64 ((a:Int)+1)] 77).alloc (aO t))
 kb:∀k,S.bp<w1.heap.size+k
 pB:PS S a (w1.alloc (aO t))
 fB:Fr [S.bp] w (w1.alloc (aO t))
 sz:w.heap.size≤w1.heap.size
theorem LA {S:jf} {a:Nat} {w:World} (h:PS S a w) {t:Tok} {ts':TS} (hm:Ck.look S.F (S.ts a)=some (.ok (t,ts'))) :
  Calls Tryz.prog 40 #[.pointer (some ⟨S.bp,0,none⟩),.int .i64 0] w fun e w1=>e=.returned (TN t)∧PKs S a t w w1:=by
 refine(look_ok h hm).mono ?_
 rintro e w1 ⟨rfl,_,ha,aA,hf1⟩;obtain⟨bK,hfA⟩:=aA.aaL ha hf1.nil (aO t)
 have hb:=aA.blk.lt;exact⟨rfl,ha,aA,hf1,bK,hfA,fun k=>by omega,aA.fr ((Fr.refl [] _).alloc (aO t)),hf1.nil.alloc (aO t),hf1.size⟩
theorem pI {W:World} {lo:Nat} (n:Ck.Node) (h:lo≤W.heap.size):Sp (W.alloc (.cells (aj n 0 (.slice none 0 0)) 90)) lo (W.heap.size+1) W.heap.size (.mk n []):=by
 have:=(Gr.new W lo n h).sp
 simpa using this
theorem Gz {S:jf} {r:Rec} {n:Nat} (hcon:aR 1 r.expr) (dO:iU 154 S r.expr):iU 298 S (jS S.F r n):=by
 intro a w res h hm;have hbp:=h.blk.lt;have hlim:=h.lim;obtain⟨i0,hi,hz0,hz1,hz2⟩:=info_parts Tryz.infoSprout
 unfold jS at hm;obtain⟨e,hm1,rfl⟩|⟨t,xg,hm1,hm⟩:=bind_some hm
 ·go_enter Tryz.func298,Tryz.ntmps298
  go_wp2_with (go_at_call 40;refine(vN h hm1).mono ?_;rintro e w1 ⟨rfl,hf1⟩)
  exact⟨rfl,rfl,hf1⟩
 have c1:=LA h hm1;obtain rfl:xg=S.ts a:=by rw[look_eq]at hm1;split at hm1<;>first|(cases hm1;rfl)|cases hm1
 clear hm1;cases h4:t.kind==4
 case true =>
  simp only[h4,Bool.false_eq_true,if_false,if_true,bind_eq,P.bind,ni,aZ,Option.some.injEq]at hm;subst hm;go_enter Tryz.func298,Tryz.ntmps298
  go_wp2_with (go_at_call 40;refine c1.mono ?_;rintro e w1 ⟨rfl,ha,aA,hf1,bK,hfA,jY,_⟩;obtain⟨kc,kz,aH,kb⟩:=aA.blk.rules)
  go_ret;have hs:=pI (lo:=w.heap.size) ⟨26,t.at',0,[],t.int,0⟩ hfA.size;simp only[World.size_alloc,aB]at hs;exact⟨_,a+1,rfl,rfl,bK.fr ((Fr.refl _ _).alloc _),hfA.alloc _,by simpa[aj,leaf,aB,aO]using hs⟩
 cases h5:t.kind==5
 case true =>
  simp only[h4,h5,Bool.false_eq_true,if_false,if_true,bind_eq,P.bind,ni,aZ,Option.some.injEq]at hm;subst hm;go_enter Tryz.func298,Tryz.ntmps298
  go_wp2_with (go_at_call 40;refine c1.mono ?_;rintro e w1 ⟨rfl,ha,aA,hf1,bK,hfA,jY,_⟩;obtain⟨kc,kz,aH,kb⟩:=aA.blk.rules)
  go_ret;have hs:=pI (lo:=w.heap.size) ⟨27,t.at',0,[],0,t.bits⟩ hfA.size;simp only[World.size_alloc,aB]at hs;exact⟨_,a+1,rfl,rfl,bK.fr ((Fr.refl _ _).alloc _),hfA.alloc _,by simpa[aj,leaf,aB,aO]using hs⟩
 cases h6:t.kind==6
 case true =>
  simp only[h4,h5,h6,Bool.false_eq_true,if_false,if_true,bind_eq,P.bind,ni,aZ,Option.some.injEq]at hm;subst hm;go_enter Tryz.func298,Tryz.ntmps298
  go_wp2_with (first|(go_at_call 40;refine c1.mono ?_;rintro e w1 ⟨rfl,ha,aA,hf1,bK,hfA,jY,_⟩;obtain⟨kc,kz,aH,kb⟩:=aA.blk.rules)|(go_at_call 39;refine(aK _ _ _ _ _ ⟨_,_,_,rfl⟩).mono ?_;rintro e w9 ⟨rfl,rfl⟩))
  go_ret;have hs:=pI (lo:=w.heap.size) ⟨28,t.at',0,t.text,0,0⟩ hfA.size;simp only[World.size_alloc,aB]at hs;exact⟨_,a+1,rfl,rfl,bK.fr ((Fr.refl _ _).alloc _),hfA.alloc _,by simpa[aj,leaf,aB,aO]using hs⟩
 cases h2:t.kind==2
 case true =>
  simp only[h4,h5,h6,h2,Bool.false_eq_true,if_false,if_true]at hm;cases hk:gY t.text with
  | some k =>
   have HK:TP t.text=.tuple #[.int .i64 k,.bool true]:=by rw[TP,hk]
   simp only[hk,bind_eq,P.bind,ni,aZ,Option.some.injEq]at hm;subst hm;have cc:=tY t.text;rw[HK]at cc
   clear HK hk;go_enter Tryz.func298,Tryz.ntmps298
   go_wp2_with (first|(go_at_call 40;refine c1.mono ?_;rintro e w1 ⟨rfl,ha,aA,hf1,bK,hfA,jY,_⟩;obtain⟨kc,kz,aH,kb⟩:=aA.blk.rules)|(go_at_call 307;refine(cc _).mono ?_;rintro e w8 ⟨rfl,rfl⟩)|(go_at_call 39;refine(aK _ _ _ _ _ ⟨_,_,_,rfl⟩).mono ?_;rintro e w9 ⟨rfl,rfl⟩))
   go_ret;have hs:=pI (lo:=w.heap.size) ⟨k,t.at',0,[],0,0⟩ hfA.size;simp only[World.size_alloc,aB]at hs;exact⟨_,a+1,rfl,rfl,bK.fr ((Fr.refl _ _).alloc _),hfA.alloc _,by simpa[aj,leaf,aB,aO]using hs⟩
  | none =>
   have HK:TP t.text=.tuple #[.int .i64 0,.bool false]:=by rw[TP,hk]
   simp only[hk]at hm;have cc:=tY t.text;rw[HK]at cc
   obtain⟨f,rfl,cw⟩:=qo hm
   clear HK hk hm;go_enter Tryz.func298,Tryz.ntmps298
   go_wp2_with (first|(go_at_call 40;refine c1.mono ?_;rintro e w1 ⟨rfl,ha,aA,hf1,bK,hfA,jY,_⟩;obtain⟨kc,kz,aH,kb⟩:=aA.blk.rules)|(go_at_call 307;refine(cc _).mono ?_;rintro e w8 ⟨rfl,rfl⟩)|(go_at_call 45;refine(cw _ a rfl (aA.fr ((Fr.refl [] _).alloc (aO t)))).mono ?_;rintro e w8 ⟨rfl,vO⟩))
   exact⟨rfl,rfl,(hf1.nil.alloc _).trans vO⟩
 cases h1:t.kind==1
 case true =>
  simp only[h4,h5,h6,h2,h1,Bool.false_eq_true,if_false,if_true]at hm;rw[bind_eq,P.bind,ni]at hm
  simp only at hm;obtain⟨e,hm2,rfl⟩|⟨q,tL,hm2,hm⟩:=bind_some hm
  ·go_enter Tryz.func298,Tryz.ntmps298
   go_wp2_with (first|(go_at_call 40;refine c1.mono ?_;rintro e w1 ⟨rfl,ha,aA,hf1,bK,hfA,jY,_⟩;obtain⟨kc,kz,aH,kb⟩:=aA.blk.rules)|(go_at_call 41;refine(ku bK hm2).mono ?_;rintro e w2 ⟨rfl,hf2⟩))
   exact⟨rfl,rfl,hfA.trans hf2⟩
  have hl2:=eF S.F 3 [40] _ _ _ hm2;have c2:=fun W (hW:PS S (a+1) W)=>dQ hW hm2
  clear hm2;cases q
  ·simp only[Bool.false_eq_true,if_false,aZ,Option.some.injEq]at hm;subst hm;go_enter Tryz.func298,Tryz.ntmps298
   go_wp2_with (first|(go_at_call 40;refine c1.mono ?_;rintro e w1 ⟨rfl,ha,aA,hf1,bK,hfA,jY,_⟩;obtain⟨kc,kz,aH,kb⟩:=aA.blk.rules)|(go_at_call 41;refine(c2 _ bK).mono ?_;rintro e w2 ⟨rfl,a2,rfl,aG,hf2⟩;clear c2;obtain⟨tc,tz,jX,tb⟩:=(((au.new _ _ _:au ((Ck.blk w1 S.bp #[S.vt,.int .i64 S.F.code,.int .i64 S.F.at',S.vo,.int .i64 ((a:Int)+1)] 77).alloc (aO t)) _ _ _)).fr hf2 (by simp[aB];omega)).rules;simp only[aB]at tc tz jX tb)|(go_at_call 39;refine(aK _ _ _ _ _ ⟨_,_,_,rfl⟩).mono ?_;rintro e w9 ⟨rfl,rfl⟩))
   go_ret;have hs:=pI (lo:=w.heap.size) (W:=w2) ⟨25,t.at',0,t.text,0,0⟩ (hfA.trans hf2).size;exact⟨_,a2,rfl,rfl,aG.fr ((Fr.refl _ _).alloc _),(hfA.trans hf2).alloc _,by simpa[aj,leaf,aB,aO]using hs⟩
  ·simp only[if_true]at hm;obtain⟨e,dH,rfl⟩|⟨q2,wR,dH,hm⟩:=bind_some hm
   ·go_enter Tryz.func298,Tryz.ntmps298
    go_wp2_with (first|(go_at_call 40;refine c1.mono ?_;rintro e w1 ⟨rfl,ha,aA,hf1,bK,hfA,jY,_⟩;obtain⟨kc,kz,aH,kb⟩:=aA.blk.rules)|(go_at_call 41;refine(c2 _ bK).mono ?_;rintro e w2 ⟨rfl,a2,rfl,aG,hf2⟩;clear c2;obtain⟨tc,tz,jX,tb⟩:=(((au.new _ _ _:au ((Ck.blk w1 S.bp #[S.vt,.int .i64 S.F.code,.int .i64 S.F.at',S.vo,.int .i64 ((a:Int)+1)] 77).alloc (aO t)) _ _ _)).fr hf2 (by simp[aB];omega)).rules;simp only[aB]at tc tz jX tb)|(go_at_call 39;refine(aK _ _ _ _ _ ⟨_,_,_,rfl⟩).mono ?_;rintro e w9 ⟨rfl,rfl⟩)|(go_at_call 41;refine(ku (aG.fr ((Fr.refl [] _).alloc _)) dH).mono ?_;rintro e w3 ⟨rfl,hf3⟩))
    exact⟨rfl,rfl,((hfA.trans hf2).alloc _).trans hf3⟩
   have c3:=fun a W (ha:tL=S.ts a) (hW:PS S a W)=>dQ hW (by rw[←ha];exact dH)
   have hR:∃R,(if q2=true then R=.ok ([],wR)else vG S.F r n [] wR=some R)∧res=match R with | .error e=>.error e | .ok (y,ts)=>.ok (leaf 23 t.at' t.text y,ts):=by
    cases q2
    ·simp only[Bool.false_eq_true,if_false]at hm ⊢;obtain⟨R,h1,h2⟩:=xk hm
     exact⟨R,h1,by rw[h2];rcases R with e|⟨y,ts⟩<;>rfl⟩
    ·simp only[if_true,aZ,Option.some.injEq]at hm ⊢;exact⟨_,rfl,hm.symm⟩
   obtain⟨R,hR,hres⟩:=hR
   have HR:=Lib.hid hres;have HM:=Lib.hid hR;clear hm hres hR dH;go_enter Tryz.func298,Tryz.ntmps298
   go_wp2_with (first|(go_at_call 40;refine c1.mono ?_;rintro e w1 ⟨rfl,ha,aA,hf1,bK,hfA,jY,_⟩;obtain⟨kc,kz,aH,kb⟩:=aA.blk.rules)|(go_at_call 41;refine(c2 _ bK).mono ?_;rintro e w2 ⟨rfl,a2,ha2,aG,hf2⟩;clear c2;obtain⟨tc,tz,jX,tb⟩:=(((au.new _ _ _:au ((Ck.blk w1 S.bp #[S.vt,.int .i64 S.F.code,.int .i64 S.F.at',S.vo,.int .i64 ((a:Int)+1)] 77).alloc (aO t)) _ _ _)).fr hf2 (by simp[aB];omega)).rules;simp only[aB]at tc tz jX tb)|(go_at_call 39;refine(aK _ _ _ _ _ ⟨_,_,_,rfl⟩).mono ?_;rintro e w9 ⟨rfl,rfl⟩)|(go_at_call 41;refine(c3 _ _ ha2 (aG.fr ((Fr.refl [] _).alloc _))).mono ?_;rintro e w3 ⟨rfl,a3,rfl,bY,hf3⟩;clear c3))
   have hfB:=hfA.trans hf2;have DN:=(hfB.alloc (.cells (aj ⟨23,t.at',0,t.text,0,0⟩ 0 (.slice none 0 0)) 90)).trans hf3;have hG0:=(Gr.new w2 w.heap.size ⟨23,t.at',0,t.text,0,0⟩ hfB.size).fr hf3 (by simp;omega);clear tc tz jX tb kc kz aH kb jY bK hfA aA hf1 hf2 aG c1 hfB;obtain⟨c,hc⟩:∃c,Hid (c=w2.heap.size):=⟨_,rfl⟩
   rw[←hc.out]at hG0 ⊢
   clear hc
   go_loopg [7] n (fun k v wr=>∃q,v=.bool q∧Hid (∃ks bs vk a,(if q=true then vG S.F r k ks (S.ts a)=some R else R=.ok (ks,S.ts a))∧ks.length+(S.ts a).length≤70000∧PS S a wr∧Fr [S.bp] w wr∧Gr wr w.heap.size c ⟨23,t.at',0,t.text,0,0⟩ bs ks vk))
   case atStart =>
    refine⟨!q2,rfl,[],[],.slice none 0 0,a3,?_,by rw[jf.tJ];simp;omega,bY,DN,hG0⟩
    have:=HM.out
    cases q2<;>simpa using this
   case round =>
    clear bY DN hG0 HM hf3;obtain⟨q,rfl,hq⟩:=hrel
    obtain⟨ks,bs,vk,a,hm,hln,hps,hf,hG⟩:=hq.out
    clear hq;have hbw:=hf.size;cases q
    ·simp only[Bool.false_eq_true,if_false]at hm;subst hm;go_wp2;go_ret;rw[HR.out];exact⟨c,a,rfl,rfl,hps,hf,by simpa[leaf]using hG.sp⟩
    ·simp only[if_true]at hm;cases gk with
     | zero=>cases hm
     | succ k =>
      simp only[vG]at hm;obtain⟨e,hm2,rfl⟩|⟨T,tL,hm2,hm⟩:=bind_some hm
      ·go_wp2;obtain⟨kc,kz,aH,kb⟩:=hG.blk.rules
       simp only[aj]at kc aH
       go_region_dies
       all_goals (go_at_call 154;refine(dO _ _ _ (hps.fr (Fr.refl [] _).drew) hm2).mono ?_;rintro e w2 ⟨rfl,hf2⟩)
       all_goals rw[HR.out]
       all_goals exact⟨rfl,rfl,(hf.drew).trans hf2⟩
      have hl2:=hcon _ _ _ hm2;have HM:=Lib.hid hm;clear hm;go_wp2;obtain⟨kc,kz,aH,kb⟩:=hG.blk.rules
      simp only[aj]at kc aH
      go_region_law (first|(refine step_append_lies _ rfl _ _ 88 rfl (c+1) 55 i0 (.pointer none) 1 8 Tryz.underlying88 hi hz0 hz1 hz2 rfl (by decide) vk ks.length (ptrs bs) rfl (by exact aF hG2.row ((Fr.refl [] _).alloc _) (by simp)) ⟨w2.heap.size,0,none⟩ 1 1 [cZ b2] rfl rfl (World.news_of_block (au.new _ _ _)) (by simp[Value.oneCell',cZ]) (by omega) (by simp[maxLen];omega) (by omega) (by have:=hG2.blk.lt;simp;omega) _ rfl ?_;intro g' cap' w3 hown3 hg3 CQ hlt3;obtain⟨qc,qz,bS,qb⟩:=((hG2.blk.alloc _).grown hg3 (fun e=>by have:=(hG2.row.lt _ e).1;omega)).rules;simp only[aj]at qc bS)|(go_simp;go_at_call 154;refine(dO _ _ _ (hps.fr (Fr.refl [] _).drew) hm2).mono ?_;rintro e w2 ⟨b2,a2,rfl,rfl,aG,hf2,hs2⟩;have hG2:=(hG.fr (Fr.refl [] _).drew (by simp)).fr hf2 (by simp;omega);obtain⟨rc,rz,bE,rb⟩:=hG2.blk.rules;simp only[aj]at rc bE))
      all_goals
       obtain⟨q1,q2,q3⟩:=Gr.step h hG hf (show Fr [S.bp] wr w2 from(Fr.refl _ _).drew.trans hf2) aG hs2 hown3 hg3 CQ
       obtain⟨W3,hW3⟩:∃X,X=Ck.blk w3 c (aj ⟨23,t.at',0,t.text,0,0⟩ 0 (.slice (some ⟨g',0,none⟩) (ks.length+1) cap')) 90:=⟨_,rfl⟩
       simp only[aj]at hW3;rw[←hW3];have q1':PS S a2 W3:=by rw[hW3];exact q1
       have q2':Fr [S.bp] w W3:=by rw[hW3];exact q2
       have q3':=q3;rw[show Ck.blk w3 c (aj ⟨23,t.at',0,t.text,0,0⟩ 0 (.slice (some ⟨g',0,none⟩) (ks.length+1) cap')) 90=W3 from hW3.symm]at q3'
       clear q1 q2 q3 hW3 hown3 hg3 CQ hlt3 qc qz bS qb rc rz bE rb hG2 aG hs2 kc kz aH kb;have hm:=HM.out;obtain⟨e,dH,rfl⟩|⟨p,wR,dH,hm⟩:=bind_some hm
       ·go_wp2_with (go_at_call 41;refine(ku q1' dH).mono ?_;rintro e w4 ⟨rfl,eY⟩)
        rw[HR.out];exact⟨rfl,rfl,q2'.trans eY⟩
       have hl3:=eF S.F 3 [44] _ _ _ dH;cases p
       ·simp only[Bool.false_eq_true,if_false]at hm;obtain⟨e,iV,rfl⟩|⟨u,Jy,iV,hm⟩:=bind_some hm
        ·go_wp2_with (first|(go_at_call 41;refine(dQ q1' dH).mono ?_;rintro e w4 ⟨rfl,a4,rfl,fT,eY⟩;clear dH)|(go_at_call 43;refine(gQ fT iV).mono ?_;rintro e w5 ⟨rfl,fF⟩))
         rw[HR.out];exact⟨rfl,rfl,(q2'.trans eY).trans fF⟩
        have hl4:=bF S.F 3 [41] _ _ _ iV;rw[aZ]at hm
        simp only[Option.some.injEq]at hm;have HE:=Lib.hid hm;clear hm HM
        go_wp2_with (first|(go_at_call 41;refine(dQ q1' dH).mono ?_;rintro e w4 ⟨rfl,a4,rfl,fT,eY⟩;clear dH)|(go_at_call 43;refine(dZ fT iV).mono ?_;rintro e w5 ⟨rfl,a5,rfl,ng,fF⟩;clear iV))
        go_roundg k
        case measure=>omega
        case rel=>exact⟨false,rfl,ks++[T],bs++[b2],_,a5,by simpa using HE.out.symm,by simp;omega,ng,(q2'.trans eY).trans fF,(q3'.fr eY (by simp;omega)).fr fF (by simp;omega)⟩
       ·simp only[if_true]at hm;have HE:=Lib.hid hm;clear hm HM
        go_wp2_with (go_at_call 41;refine(dQ q1' dH).mono ?_;rintro e w4 ⟨rfl,a4,rfl,fT,eY⟩;clear dH)
        go_roundg k
        case measure=>omega
        case rel=>exact⟨true,rfl,ks++[T],bs++[b2],_,a4,by simpa using HE.out,by simp;omega,fT,q2'.trans eY,q3'.fr eY (by simp;omega)⟩
 cases h3:t.kind==3
 case true =>
  simp only[h4,h5,h6,h2,h1,h3,Bool.false_eq_true,if_false,if_true]at hm;obtain⟨e,hm2,rfl⟩|⟨q,tL,hm2,hm⟩:=bind_some hm
  ·go_enter Tryz.func298,Tryz.ntmps298
   go_wp2_with (first|(go_at_call 40;refine c1.mono ?_;rintro e w1 ⟨rfl,ha,aA,hf1,bK,hfA,jY,_⟩;obtain⟨kc,kz,aH,kb⟩:=aA.blk.rules)|(go_at_call 41;refine(ku (aA.fr ((Fr.refl [] _).alloc (aO t))) hm2).mono ?_;rintro e w2 ⟨rfl,hf2⟩))
   exact⟨rfl,rfl,(hf1.nil.alloc _).trans hf2⟩
  have c2:=fun W (hW:PS S a W)=>dQ hW hm2
  clear hm2;cases q
  ·simp only[Bool.false_eq_true,if_false]at hm;obtain⟨f,rfl,cw⟩:=qo hm
   clear hm;go_enter Tryz.func298,Tryz.ntmps298
   go_wp2_with (first|(go_at_call 40;refine c1.mono ?_;rintro e w1 ⟨rfl,ha,aA,hf1,bK,hfA,jY,_⟩;obtain⟨kc,kz,aH,kb⟩:=aA.blk.rules)|(go_at_call 41;refine(c2 _ (aA.fr ((Fr.refl [] _).alloc (aO t)))).mono ?_;rintro e w2 ⟨rfl,a2,rfl,aG,hf2⟩;clear c2)|(go_at_call 45;refine(cw _ _ rfl aG).mono ?_;rintro e w8 ⟨rfl,vO⟩))
   exact⟨rfl,rfl,((hf1.nil.alloc _).trans hf2).trans vO⟩
  ·simp only[if_true]at hm;obtain⟨e,dH,rfl⟩|⟨E,wR,dH,hm⟩:=bind_some hm
   ·go_enter Tryz.func298,Tryz.ntmps298
    go_wp2_with (first|(go_at_call 40;refine c1.mono ?_;rintro e w1 ⟨rfl,ha,aA,hf1,bK,hfA,jY,_⟩;obtain⟨kc,kz,aH,kb⟩:=aA.blk.rules)|(go_at_call 41;refine(c2 _ (aA.fr ((Fr.refl [] _).alloc (aO t)))).mono ?_;rintro e w2 ⟨rfl,a2,rfl,aG,hf2⟩;clear c2)|(go_at_call 154;refine(dO _ _ _ aG dH).mono ?_;rintro e w3 ⟨rfl,hf3⟩))
    exact⟨rfl,rfl,((hf1.nil.alloc _).trans hf2).trans hf3⟩
   obtain⟨e,iV,rfl⟩|⟨u,Jy,iV,hm⟩:=bind_some hm
   ·go_enter Tryz.func298,Tryz.ntmps298
    go_wp2_with (first|(go_at_call 40;refine c1.mono ?_;rintro e w1 ⟨rfl,ha,aA,hf1,bK,hfA,jY,_⟩;obtain⟨kc,kz,aH,kb⟩:=aA.blk.rules)|(go_at_call 41;refine(c2 _ (aA.fr ((Fr.refl [] _).alloc (aO t)))).mono ?_;rintro e w2 ⟨rfl,a2,rfl,aG,hf2⟩;clear c2)|(go_at_call 154;refine(dO _ _ _ aG dH).mono ?_;rintro e w3 ⟨b3,a3,rfl,rfl,bY,hf3,hs3⟩;clear dH)|(go_at_call 43;refine(gQ bY iV).mono ?_;rintro e w4 ⟨rfl,eY⟩))
    exact⟨rfl,rfl,(((hf1.nil.alloc _).trans hf2).trans hf3).trans eY⟩
   rw[aZ]at hm
   simp only[Option.some.injEq]at hm;subst hm;go_enter Tryz.func298,Tryz.ntmps298
   go_wp2_with (first|(go_at_call 40;refine c1.mono ?_;rintro e w1 ⟨rfl,ha,aA,hf1,bK,hfA,jY,_⟩;obtain⟨kc,kz,aH,kb⟩:=aA.blk.rules)|(go_at_call 41;refine(c2 _ (aA.fr ((Fr.refl [] _).alloc (aO t)))).mono ?_;rintro e w2 ⟨rfl,a2,rfl,aG,hf2⟩;clear c2)|(go_at_call 154;refine(dO _ _ _ aG dH).mono ?_;rintro e w3 ⟨b3,a3,rfl,rfl,bY,hf3,hs3⟩;clear dH)|(go_at_call 43;refine(dZ bY iV).mono ?_;rintro e w4 ⟨rfl,a4,rfl,fT,eY⟩;clear iV))
   go_ret;have hfa:=(hf1.nil (T:=[S.bp]) |>.alloc (aO t)).trans hf2;exact⟨b3,a4,rfl,rfl,fT,(hfa.trans hf3).trans eY,(hs3.fr eY (by have:=hfa.size;simp;omega) (Nat.le_refl _)).wide hfa.size eY.size⟩
 simp only[h4,h5,h6,h2,h1,h3,Bool.false_eq_true,if_false]at hm;obtain⟨f,rfl,cw⟩:=qo hm
 clear hm;go_enter Tryz.func298,Tryz.ntmps298
 go_wp2_with (first|(go_at_call 40;refine c1.mono ?_;rintro e w1 ⟨rfl,ha,aA,hf1,bK,hfA,jY,_⟩;obtain⟨kc,kz,aH,kb⟩:=aA.blk.rules)|(go_at_call 45;refine(cw _ a rfl (aA.fr ((Fr.refl [] _).alloc (aO t)))).mono ?_;rintro e w8 ⟨rfl,vO⟩))
 exact⟨rfl,rfl,(hf1.nil.alloc _).trans vO⟩
end Go.Proofs.YtoomapkcoibmhaaGreatDoor
end
