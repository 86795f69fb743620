/- A part of the proof. -/
import Derived.Test.YtoomapkcoibmhaaGreatDoorQ3
import Derived.Test.YtoomapkcoibmhaaGreatDoorQ13
set_option maxRecDepth 100000
set_option maxHeartbeats 12800000
set_option linter.all false
section
open Go Go.Proofs Go.RowKit Go.Shelf Ck
namespace Go.Proofs.YtoomapkcoibmhaaGreatDoor
def LevelsAt (w:World) (lo:Nat) (g:Nat):Prop:=lo≤g∧g<w.heap.size∧∀(k:Nat) (l:List Bytes),levels[k]? = some l→∃b c,w.cell? ⟨g,k,none⟩=some (.slice (some ⟨b,0,none⟩) l.length c)∧lo≤b∧b<w.heap.size∧∀j,j<l.length→w.cell? ⟨b,j,none⟩=some (.string ⟨(l.getD j []).toArray⟩)
theorem LevelsAt.fr {w w':World} {lo g:Nat} {S:List Nat} (h:LevelsAt w lo g) (hf:Fr S w w') (hS:∀x∈S,x<lo):LevelsAt w' lo g:=by
 obtain⟨h1,h2,h3⟩:=h
 refine⟨h1,hf.lt h2,fun k l hl=>?_⟩
 obtain⟨b,c,k1,k2,k3,k4⟩:=h3 k l hl
 exact⟨b,c,hf.cell k1 (fun hm=>by have:=hS _ hm;simp at this;omega),k2,hf.lt k3,fun j hj=>hf.cell (k4 j hj) (fun hm=>by have:=hS _ hm;simp at this;omega)⟩
theorem levels_any (w:World):Calls Tryz.prog 261 #[] w fun e w'=>∃g,e=.returned (.slice (some ⟨g,0,none⟩) 6 6)∧Fr [] w w'∧LevelsAt w' w.heap.size g:=by
 go_enter Tryz.func261,Tryz.ntmps261
 go_wp2
 go_ret
 refine⟨_,rfl,(((((((Fr.refl _ _).alloc _).alloc _).alloc _).alloc _).alloc _).alloc _).alloc _,by omega,by simp,fun k l hl=>?_⟩
 match k,hl with
 | 0,hl=>obtain rfl:=Option.some.inj hl;exact⟨w.heap.size,1,by simp[go_sem],by omega,by simp;omega,fun j hj=>by obtain rfl:j=0:=(by simp at hj;omega);simp[go_sem]⟩
 | 1,hl=>obtain rfl:=Option.some.inj hl;exact⟨w.heap.size+1,1,by simp[go_sem],by omega,by simp,fun j hj=>by obtain rfl:j=0:=(by simp at hj;omega);simp[go_sem]⟩
 | 2,hl=>obtain rfl:=Option.some.inj hl;exact⟨w.heap.size+1+1,1,by simp[go_sem],by omega,by simp,fun j hj=>by obtain rfl:j=0:=(by simp at hj;omega);simp[go_sem]⟩
 | 3,hl=>obtain rfl:=Option.some.inj hl;exact⟨w.heap.size+1+1+1,2,by simp[go_sem],by omega,by simp,fun j hj=>by obtain rfl|rfl:j=0∨j=1:=(by simp at hj;omega)<;>simp[go_sem]⟩
 | 4,hl=>obtain rfl:=Option.some.inj hl;exact⟨w.heap.size+1+1+1+1,2,by simp[go_sem],by omega,by simp,fun j hj=>by obtain rfl|rfl:j=0∨j=1:=(by simp at hj;omega)<;>simp[go_sem]⟩
 | 5,hl=>obtain rfl:=Option.some.inj hl;exact⟨w.heap.size+1+1+1+1+1,4,by simp[go_sem],by omega,by simp,fun j hj=>by obtain rfl|rfl|rfl|rfl:j=0∨j=1∨j=2∨j=3:=(by simp at hj;omega)<;>simp[go_sem]⟩
 | k+6,hl=>simp[levels]at hl
abbrev LevelAny (S:PSt) (m:Nat→Ck.P Tree):Prop:=∀(k a:Nat) (w:World) (r:Except Flt (Tree × TS)),k≤6→PS S a w→m k (S.ts a)=some r →
  Calls Tryz.prog 258 #[.pointer (some ⟨S.bp,0,none⟩),.int .i64 k] w (OutT S w w.heap.size r)
theorem LevelAny.ok {S:PSt} {m:Nat→Ck.P Tree} (h:LevelAny S m):LevelOk S m:=fun k a w T ts' hk hp hm=>h k a w _ hk hp hm
theorem LevelAny.er {S:PSt} {m:Nat→Ck.P Tree} (h:LevelAny S m):LevelEr S m:=fun k a w f hk hp hm=>h k a w _ hk hp hm
theorem level_any {S:PSt} {r:Rec} {n:Nat} (ihl:LevelAny S r.level) (ihu:MAny 286 S r.unary):LevelAny S (pLevel S.F r n):=by
 intro k a w res hk h hm
 have hbp:=h.blk.lt
 unfold pLevel at hm
 cases hl:levels[k]? with
 | none =>
  obtain rfl:k=6:=by have:=List.getElem?_eq_none_iff.1 hl;simp[levels]at this;omega
  rw[hl]at hm
  simp only at hm
  cases res with
  | error f =>
   go_enter Tryz.func258,Tryz.ntmps258
   go_wp2_with (first|(go_at_call 261;refine(levels_any _).mono ?_;rintro e w1 ⟨g,rfl,hf1,hL⟩)|(go_at_call 286;refine(ihu _ _ _ (h.fr hf1) hm).mono ?_;rintro e w2 ⟨rfl,hf2⟩))
   exact⟨rfl,rfl,hf1.nil.trans hf2⟩
  | ok p =>
   obtain⟨T,ts'⟩:=p
   go_enter Tryz.func258,Tryz.ntmps258
   go_wp2_with (first|(go_at_call 261;refine(levels_any _).mono ?_;rintro e w1 ⟨g,rfl,hf1,hL⟩)|(go_at_call 286;refine(ihu _ _ _ (h.fr hf1) hm).mono ?_;rintro e w2 ⟨b2,a2,rfl,rfl,hps2,hf2,hs2⟩))
   go_ret
   exact⟨b2,a2,rfl,rfl,hps2,hf1.nil.trans hf2,hs2.wide hf1.size (Nat.le_refl _)⟩
 | some l =>
  have hk6:k<6:=by have:=(List.getElem?_eq_some_iff.1 hl).1;simpa[levels]using this
  rw[hl]at hm
  simp only at hm
  have hkc:((k+1:Nat):Int)=(k:Int)+1:=by omega
  have hne:((k:Int)==6)=false:=by simp;omega
  obtain⟨e,hm1,rfl⟩|⟨E,ts1,hm1,hm⟩:=bind_some hm
  ·have ih1:=fun W hW=>ihl (k+1) a W _ (by omega) hW hm1
   rw[hkc]at ih1
   clear hkc
   go_enter Tryz.func258,Tryz.ntmps258
   go_wp2_with (first|(go_at_call 261;refine(levels_any _).mono ?_;rintro e w1 ⟨g,rfl,hf1,hL⟩)|(go_at_call 258;refine(ih1 _ (h.fr hf1)).mono ?_;rintro e w2 ⟨rfl,hf2⟩))
   exact⟨rfl,rfl,hf1.nil.trans hf2⟩
  ·have ih1:=fun W hW=>ihl (k+1) a W _ (by omega) hW hm1
   rw[hkc]at ih1
   have HM0:=Lib.hid hm;clear hm hm1
   go_enter Tryz.func258,Tryz.ntmps258
   go_wp2_with (first|(go_at_call 261;refine(levels_any _).mono ?_;rintro e w1 ⟨g,rfl,hf1,hL⟩)|(go_at_call 258;refine(ih1 _ (h.fr hf1)).mono ?_;rintro e w2 ⟨b2,a2,rfl,rfl,hps2,hf2,hs2⟩))
   have hw1:=hf1.size
   have hL2:=hL.fr hf2 (by simp;omega)
   go_loopg [6] n (fun i v wr=>∃b,v=.pointer (some ⟨b,0,none⟩)∧Hid (∃E a,levelL S.F r k l i E (S.ts a)=some res∧PS S a wr∧Fr [S.bp] w wr∧Sp wr w.heap.size wr.heap.size b E∧LevelsAt wr w.heap.size g))
   case atStart=>exact⟨b2,rfl,E,a2,HM0.out,hps2,hf1.nil.trans hf2,hs2.wide hw1 (Nat.le_refl _),hL2⟩
   case round =>
    clear hps2 hf2 hs2 hL hL2 HM0 hf1
    obtain⟨b,rfl,hq⟩:=hrel
    obtain⟨E,a,hm,hps,hf,hs,hL⟩:=hq.out
    clear hq
    have hbw:=hf.size
    cases gk with
    | zero=>cases hm
    | succ i =>
     simp only[levelL]at hm
     obtain⟨g1,g2,g3⟩:=hL
     obtain⟨bl,cl,k1,k2,k3,k4⟩:=g3 k l hl
     have hv:StrSlice wr (.slice (some ⟨bl,0,none⟩) l.length cl) l:=.inr ⟨bl,cl,rfl,k3,k4⟩
     have hl9:l.length≤9223372036854775807:=by
      have h4:∀x∈levels,x.length≤4:=by decide
      have:=h4 l (List.mem_of_getElem? hl)
      omega
     have hL0:LevelsAt wr w.heap.size g:=⟨g1,g2,g3⟩
     have hx0:(0:Int)≤(k:Int):=Int.natCast_nonneg k
     have hx6:(k:Int)<6:=by omega
     clear g3 k4
     obtain⟨e,hm1,rfl⟩|⟨c,ts1,hm1,hm⟩:=bind_some hm
     ·have c1:=sees_er hps hv hl9 hm1
      clear hm1 hL0 hl
      go_wp2_with (go_at_call 72;refine c1.mono ?_;rintro e w1 ⟨rfl,hf1⟩)
      exact⟨rfl,rfl,hf.trans hf1⟩
     have c1:=sees_ok hps hv hl9 hm1
     cases c
     ·simp only[Bool.false_eq_true,if_false,pure_eq,Option.some.injEq]at hm
      subst hm
      clear hm1 hl
      go_wp2_with (go_at_call 72;refine c1.mono ?_;rintro e w1 ⟨rfl,rfl,hps1,hf1⟩;clear c1)
      go_ret
      exact⟨b,a,rfl,rfl,hps1,hf.trans hf1.nil,(hs.fr hf1 (by simp) (Nat.le_refl _)).wide (Nat.le_refl _) hf1.size⟩
     ·simp only[if_true]at hm
      obtain⟨e,hm2,rfl⟩|⟨E',ts2,hm2,hm⟩:=bind_some hm
      ·have c2:=fun a' W (hW:PS S a' W) (ha:ts1=S.ts a')=>two_er (r:=r) ihl.er (a:=a') (w:=W) hW (k:=k+1) (by omega) (L:=E) (bl:=b) (by rw[←ha];exact hm2)
       rw[hkc]at c2
       clear hm1 hm2 hl hkc
       go_wp2_with (first|(go_at_call 72;refine c1.mono ?_;rintro e w1 ⟨rfl,ha1,hps1,hf1⟩;clear c1)|(go_at_call 259;refine(c2 a _ hps1 ha1).mono ?_;rintro e w2 ⟨rfl,hf2⟩))
       exact⟨rfl,rfl,(hf.trans hf1.nil).trans hf2⟩
      have c2:=fun a' W (hW:PS S a' W) (ha:ts1=S.ts a') (hE:Sp W w.heap.size wr.heap.size b E) (hS:wr.heap.size≤W.heap.size)=>two_ok (r:=r) ihl.ok (a:=a') (w:=W) hW (k:=k+1) (by omega) (L:=E) hE (by omega) hS (by rw[←ha];exact hm2)
      rw[hkc]at c2
      have HM:=Lib.hid hm;clear hm hm1 hm2 hl hkc
      go_wp2_with (first|(go_at_call 72;refine c1.mono ?_;rintro e w1 ⟨rfl,ha1,hps1,hf1⟩;clear c1)|(go_at_call 259;refine(c2 a _ hps1 ha1 (hs.fr hf1 (by simp) (Nat.le_refl _)) hf1.size).mono ?_;rintro e w2 ⟨b2,a2,rfl,rfl,hps2,hf2,hs2⟩;clear c2))
      go_roundg i
      case measure=>omega
      case rel=>exact⟨_,rfl,E',a2,HM.out,hps2,(hf.trans hf1.nil).trans hf2,hs2,(hL0.fr hf1 (by simp)).fr hf2 (by simp;omega)⟩
theorem not_any {S:PSt} {r:Rec} (ihn:MAny 217 S r.not') (ihl:LevelAny S r.level):MAny 217 S (pNot S.F r):=by
 intro a w res h hm
 unfold pNot at hm
 have hbp:=h.blk.lt
 have hps0:=h.fr ((Fr.refl [] w).alloc (.cells #[.string ⟨#[110,111,116]⟩] 9))
 have hv:=str1 w [110,111,116]
 obtain⟨e,hm1,rfl⟩|⟨c,ts1,hm1,hm⟩:=bind_some hm
 ·have c1:=sees_er hps0 hv (by simp) hm1
  go_enter Tryz.func217,Tryz.ntmps217
  go_wp2_with (go_at_call 72;refine c1.mono ?_;rintro e w1 ⟨rfl,hf1⟩)
  exact⟨rfl,rfl,((Fr.refl _ w).alloc _).trans hf1⟩
 have c1:=sees_ok hps0 hv (by simp) hm1
 cases c
 ·simp only[Bool.false_eq_true,if_false]at hm
  obtain⟨e,hm2,rfl⟩|⟨E,ts2,hm2,hm⟩:=bind_some hm
  ·go_enter Tryz.func217,Tryz.ntmps217
   go_wp2_with (first|(go_at_call 72;refine c1.mono ?_;rintro e w1 ⟨rfl,rfl,hps1,hf1⟩;clear c1)|(go_at_call 258;refine(ihl 0 _ _ _ (by omega) hps1 hm2).mono ?_;rintro e w2 ⟨rfl,hf2⟩))
   exact⟨rfl,rfl,(((Fr.refl _ w).alloc _).trans hf1.nil).trans hf2⟩
  clear hm1
  have hL6:∀W:World,StrSlice (W.alloc (.cells #[.string ⟨#[61,61]⟩,.string ⟨#[33,61]⟩,.string ⟨#[60]⟩,.string ⟨#[60,61]⟩,.string ⟨#[62]⟩,.string ⟨#[62,61]⟩] 9)) (.slice (some ⟨W.heap.size,0,none⟩) 6 6) [[61,61],[33,61],[60],[60,61],[62],[62,61]]:=fun W=>strL W [[61,61],[33,61],[60],[60,61],[62],[62,61]]
  obtain⟨e,hm3,rfl⟩|⟨c,ts3,hm3,hm⟩:=bind_some hm
  ·go_enter Tryz.func217,Tryz.ntmps217
   go_wp2_with (first|(go_at_call 72;refine c1.mono ?_;rintro e w1 ⟨rfl,rfl,hps1,hf1⟩;clear c1)|(go_at_call 258;refine(ihl 0 _ _ _ (by omega) hps1 hm2).mono ?_;rintro e w2 ⟨b2,a2,rfl,rfl,hps2,hf2,hs2⟩;clear hm2)|(go_at_call 72;refine(sees_er (hps2.fr ((Fr.refl [] _).alloc _)) (hL6 _) (by simp) hm3).mono ?_;rintro e w3 ⟨rfl,hf3⟩))
   exact⟨rfl,rfl,((((((Fr.refl _ w).alloc _).trans hf1.nil).trans hf2).alloc _).trans hf3)⟩
  cases c
  ·simp only[Bool.false_eq_true,if_false,pure_eq,Option.some.injEq]at hm
   subst hm
   go_enter Tryz.func217,Tryz.ntmps217
   go_wp2_with (first|(go_at_call 72;refine c1.mono ?_;rintro e w1 ⟨rfl,rfl,hps1,hf1⟩;clear c1)|(go_at_call 258;refine(ihl 0 _ _ _ (by omega) hps1 hm2).mono ?_;rintro e w2 ⟨b2,a2,rfl,rfl,hps2,hf2,hs2⟩;clear hm2)|(go_at_call 72;refine(sees_ok (hps2.fr ((Fr.refl [] _).alloc _)) (hL6 _) (by simp) hm3).mono ?_;rintro e w3 ⟨rfl,rfl,hps3,hf3⟩;clear hm3))
   go_ret
   have hfa:Fr [S.bp] w w1:=((Fr.refl _ w).alloc _).trans hf1.nil
   have hfb:Fr [] w2 w3:=((Fr.refl _ w2).alloc _).trans hf3
   exact⟨b2,a2,rfl,rfl,hps3,(hfa.trans hf2).trans hfb.nil,(hs2.fr hfb (by simp) (Nat.le_refl _)).wide hfa.size hfb.size⟩
  ·simp only[if_true]at hm
   cases res with
   | error f =>
    go_enter Tryz.func217,Tryz.ntmps217
    go_wp2_with (first|(go_at_call 72;refine c1.mono ?_;rintro e w1 ⟨rfl,rfl,hps1,hf1⟩;clear c1)|(go_at_call 258;refine(ihl 0 _ _ _ (by omega) hps1 hm2).mono ?_;rintro e w2 ⟨b2,a2,rfl,rfl,hps2,hf2,hs2⟩;clear hm2)|(go_at_call 72;refine(sees_ok (hps2.fr ((Fr.refl [] _).alloc _)) (hL6 _) (by simp) hm3).mono ?_;rintro e w3 ⟨rfl,rfl,hps3,hf3⟩;clear hm3)|(go_at_call 259;refine(two_er ihl.er hps3 (by omega) hm).mono ?_;rintro e w4 ⟨rfl,hf4⟩))
    exact⟨rfl,rfl,(((((((Fr.refl _ w).alloc _).trans hf1.nil).trans hf2).alloc _).trans hf3.nil).trans hf4)⟩
   | ok p =>
    obtain⟨T,ts'⟩:=p
    go_enter Tryz.func217,Tryz.ntmps217
    go_wp2_with (first|(go_at_call 72;refine c1.mono ?_;rintro e w1 ⟨rfl,rfl,hps1,hf1⟩;clear c1)|(go_at_call 258;refine(ihl 0 _ _ _ (by omega) hps1 hm2).mono ?_;rintro e w2 ⟨b2,a2,rfl,rfl,hps2,hf2,hs2⟩;clear hm2)|(go_at_call 72;refine(sees_ok (hps2.fr ((Fr.refl [] _).alloc _)) (hL6 _) (by simp) hm3).mono ?_;rintro e w3 ⟨rfl,rfl,hps3,hf3⟩;clear hm3)|(go_at_call 259;refine(two_ok ihl.ok hps3 (by omega) (hs2.fr (((Fr.refl [] w2).alloc _).trans hf3) (by simp) (Nat.le_refl _)) (by have:=hf1.size;simp at this;omega) (((Fr.refl [] w2).alloc _).trans hf3).size hm).mono ?_;rintro e w4 ⟨b4,a4,rfl,rfl,hps4,hf4,hs4⟩;clear hm))
    go_ret
    have hfa:Fr [S.bp] w w1:=((Fr.refl _ w).alloc _).trans hf1.nil
    have hfb:Fr [] w2 w3:=((Fr.refl _ w2).alloc _).trans hf3
    exact⟨b4,a4,rfl,rfl,hps4,((hfa.trans hf2).trans hfb.nil).trans hf4,hs4.wide hfa.size (Nat.le_refl _)⟩
 ·simp only[if_true]at hm
  obtain⟨e,hm2,rfl⟩|⟨at',ts2,hm2,hm⟩:=bind_some hm
  ·go_enter Tryz.func217,Tryz.ntmps217
   go_wp2_with (first|(go_at_call 72;refine c1.mono ?_;rintro e w1 ⟨rfl,rfl,hps1,hf1⟩;clear c1)|(go_at_call 43;refine(must_er hps1 hm2).mono ?_;rintro e w2 ⟨rfl,hf2⟩))
   exact⟨rfl,rfl,(((Fr.refl _ w).alloc _).trans hf1.nil).trans hf2⟩
  obtain⟨e,hm3,rfl⟩|⟨G,ts3,hm3,hm⟩:=bind_some hm
  ·go_enter Tryz.func217,Tryz.ntmps217
   go_wp2_with (first|(go_at_call 72;refine c1.mono ?_;rintro e w1 ⟨rfl,rfl,hps1,hf1⟩;clear c1)|(go_at_call 43;refine(must_ok hps1 hm2).mono ?_;rintro e w2 ⟨rfl,a2,rfl,hps2,hf2⟩;clear hm2)|(go_at_call 217;refine(ihn _ _ _ hps2 hm3).mono ?_;rintro e w3 ⟨rfl,hf3⟩))
   exact⟨rfl,rfl,((((Fr.refl _ w).alloc _).trans hf1.nil).trans hf2).trans hf3⟩
  rw[pure_eq]at hm
  simp only[Option.some.injEq]at hm
  subst hm
  go_enter Tryz.func217,Tryz.ntmps217
  go_wp2_with (first|(go_at_call 72;refine c1.mono ?_;rintro e w1 ⟨rfl,rfl,hps1,hf1⟩;clear c1)|(go_at_call 43;refine(must_ok hps1 hm2).mono ?_;rintro e w2 ⟨rfl,a2,rfl,hps2,hf2⟩;clear hm2)|(go_at_call 217;refine(ihn _ _ _ hps2 hm3).mono ?_;rintro e w3 ⟨b3,a3,rfl,rfl,hps3,hf3,hs3⟩;clear hm3)|(go_at_call 39;refine(node_any _ _ _ _ _ ⟨_,_,_,rfl⟩).mono ?_;rintro e w4 ⟨rfl,rfl⟩))
  go_ret
  have hfa:Fr [S.bp] w w2:=(((Fr.refl _ w).alloc _).trans hf1.nil).trans hf2
  have hM:=(Kids.one hs3 (Nat.le_refl _)).made ⟨20,at',0,[],0,0⟩ 0 (by simp) hf3.size
  refine⟨_,a3,rfl,rfl,hps3.fr (((Fr.refl _ _).alloc _).alloc _),((hfa.trans hf3).alloc _).alloc _,?_⟩
  have hM':=hM.wide (lo':=w.heap.size) (hi':=w3.heap.size+1+1) hfa.size (Nat.le_refl _)
  simpa[ncells,ptrs,ptrV,leaf]using hM'
theorem PS.of_begin {w:World} {s:Bytes} {W:World} (h:BI w (lexAll s).1 (lexAll s).2 W) :
  ∃S:PSt,S.toks=(lexAll s).1∧S.F=(lexAll s).2∧S.bp=w.heap.size∧PS S 0 W∧Fr [] w W:=by
 obtain⟨⟨vt,vo,h1,h2,h3⟩,h4,h5,h6,h7⟩:=h
 exact⟨⟨(lexAll s).1,(lexAll s).2,vt,vo,w.heap.size⟩,rfl,rfl,rfl,⟨h1,ownsRow_base h2 (by simp),ownsRow_base h3 (by simp),by have:=lexAll_count s;simp;omega,Nat.zero_le _⟩,h6⟩
theorem Tryz.infoSprout:(Tryz.prog.info? 55).map (fun i=>(i.zero,i.size,i.bytes))=some (some (.pointer none),1,8):=by kernel_rfl
theorem Sps.keepx {w w':World} {hi b:Nat} {g:Option Nat}:∀{ks:List Tree} {bs:List Nat} {lo:Nat},Sps w lo hi b g bs ks→(∀k,lo≤k→k<hi→k≠b→g≠some k→w'.heap[k]? = w.heap[k]?)→Sps w' lo hi b g bs ks
 | [],bs,lo,h,_=>by simp only[Sps]at h ⊢;exact h
 | t::ts,bs,lo,h,hk=>by
  simp only[Sps]at h ⊢
  obtain⟨x,xs,l,hh,e,a1,a2,a3,a4,a5,a6,a7⟩:=h
  exact⟨x,xs,l,hh,e,a1,a2,a3,a4,a5,a6.keep (fun k k1 k2=>hk k (by omega) (by omega) (by omega) (fun e=>by have:=a5 k e;omega)) (Nat.le_refl _) (Nat.le_refl _),Sps.keepx a7 (fun k k1 k2 k3 k4=>hk k (by omega) k2 k3 k4)⟩
structure Gr (w:World) (lo c:Nat) (n:Ck.Node) (bs:List Nat) (ks:List Tree) (vk:Value):Prop where
 blk:Blk w c (ncells n 0 vk) 90
 row:w.ownsRow (c+1) 55 1 vk ks.length (ptrs bs)
 kids:∃hi,hi≤w.heap.size∧Sps w lo hi c vk.ownBlock bs ks
 lo:lo≤c
theorem Gr.new (w:World) (lo:Nat) (n:Ck.Node) (h:lo≤w.heap.size):Gr (w.alloc (.cells (ncells n 0 (.slice none 0 0)) 90)) lo w.heap.size n [] [] (.slice none 0 0) :=
 ⟨Blk.new w _ _,⟨rfl,.inl ⟨rfl,rfl⟩⟩,⟨lo,by simp;omega,Sps.none (Nat.le_refl _)⟩,h⟩
theorem Gr.fr {S:List Nat} {w w':World} {lo c:Nat} {n:Ck.Node} {bs:List Nat} {ks:List Tree} {vk:Value} (h:Gr w lo c n bs ks vk) (hf:Fr S w w') (hS:∀x∈S,x<lo):Gr w' lo c n bs ks vk:=by
 obtain⟨hi,h1,h2⟩:=h.kids
 have hl:=h.lo
 exact⟨h.blk.fr hf (fun hm=>by have:=hS c hm;omega),ownsRow_fr h.row hf (fun x hx=>by have:=hS x hx;omega),⟨hi,by have:=hf.size;omega,h2.keep (fun k k1 k2=>hf.block k (by omega) (fun hm=>by have:=hS k hm;omega)) (Nat.le_refl _) (Nat.le_refl _)⟩,hl⟩
theorem Gr.sp {w:World} {lo c:Nat} {n:Ck.Node} {bs:List Nat} {ks:List Tree} {vk:Value} (h:Gr w lo c n bs ks vk):Sp w lo w.heap.size c (.mk n ks):=by
 obtain⟨hi,h1,h2⟩:=h.kids
 simp only[Sp]
 exact⟨h.lo,h.blk.lt,0,vk,bs,h.blk,ownsRow_base h.row (by have:=h.lo;omega),fun g hg=>(h.row.lt g hg).2,h2.wide (Nat.le_refl _) h1⟩
theorem Gr.push {S:List Nat} {w w2 w3:World} {lo c b g' cap':Nat} {n:Ck.Node} {bs:List Nat} {ks:List Tree} {vk:Value} {T:Tree} {o:Obj} (h:Gr w lo c n bs ks vk) (hf:Fr S w w2) (hS:∀x∈S,x<lo) (ht:Sp w2 w.heap.size w2.heap.size b T)
  (hown:w3.ownsRow (c+1) 55 1 (.slice (some ⟨g',0,none⟩) (ks.length+1) cap') (ks.length+1) (ptrs bs++[ptrV b])) (hg:(w2.alloc o).grownBy w3 vk.ownBlock) (hat:vk.ownBlock=some g'∨w2.heap.size≤g') :
  Gr (Ck.blk w3 c (ncells n 0 (.slice (some ⟨g',0,none⟩) (ks.length+1) cap')) 90) lo c n (bs++[b]) (ks++[T]) (.slice (some ⟨g',0,none⟩) (ks.length+1) cap'):=by
 have h2:=h.fr hf hS
 have hx:=ht.lt
 have hc:=h.blk.lt
 have hz:=hf.size
 have hlo:=h.lo
 have hz3:=hg.size
 simp only[World.size_alloc]at hz3
 obtain⟨hi,k1,k2⟩:=h.kids
 have hlt:∀k,vk.ownBlock=some k→c+1≤k∧k<w.heap.size:=fun k hk=>h.row.lt k hk
 have k3:Sps w2 lo hi c vk.ownBlock bs ks:=k2.keep (fun k q1 q2=>hf.block k (by omega) (fun hm=>by have:=hS k hm;omega)) (Nat.le_refl _) (Nat.le_refl _)
 have hX:∀k,k<w2.heap.size→k≠c→vk.ownBlock≠some k→(Ck.blk w3 c (ncells n 0 (.slice (some ⟨g',0,none⟩) (ks.length+1) cap')) 90).heap[k]? = w2.heap[k]?:=fun k q2 q3 q4=>by
  rw[blk_heap_other q3,hg.block k (by simp;omega) (fun e=>q4 e.symm)]
  exact Below.heap_alloc w2 o k (by omega)
 have k3':=Sps.keepx k3 (fun k q1 q2 q3 q4=>hX k (by omega) q3 q4)
 have ht':=ht.keep (fun k q1 q2=>hX k q2 (by omega) (fun e=>by have:=hlt k e;omega)) (Nat.le_refl _) (Nat.le_refl _)
 refine⟨Blk.blk (by omega),by simpa[ptrs]using owns_blk hown (by omega),⟨w2.heap.size,by rw[blk_size];omega,?_⟩,hlo⟩
 refine Sps.snoc (g:=vk.ownBlock) k1 ht' (by omega) (.inl hc) (fun k e=>?_) (fun k e=>?_) k3'
 ·obtain rfl:g'=k:=by simpa[Value.ownBlock]using e
  rcases hat with h1|h1
  ·exact .inl (hlt _ h1).2
  ·exact .inr h1
 ·obtain rfl:g'=k:=by simpa[Value.ownBlock]using e
  rcases hat with h1|h1
  ·exact .inl h1
  ·exact .inr (by omega)
theorem Gr.step {S:PSt} {w w1 w2 w3:World} {a0 a2 c b g' cap':Nat} {n:Ck.Node} {bs:List Nat} {ks:List Tree} {vk:Value} {T:Tree} {o:Obj} (h0:PS S a0 w) (h:Gr w1 w.heap.size c n bs ks vk) (hf1:Fr [S.bp] w w1) (hf2:Fr [S.bp] w1 w2)
  (hps:PS S a2 w2) (ht:Sp w2 w1.heap.size w2.heap.size b T)
  (hown:w3.ownsRow (c+1) 55 1 (.slice (some ⟨g',0,none⟩) (ks.length+1) cap') (ks.length+1) (ptrs bs++[ptrV b])) (hg:(w2.alloc o).grownBy w3 vk.ownBlock) (hat:vk.ownBlock=some g'∨g'=(w2.alloc o).heap.size) :
  PS S a2 (Ck.blk w3 c (ncells n 0 (.slice (some ⟨g',0,none⟩) (ks.length+1) cap')) 90)∧Fr [S.bp] w (Ck.blk w3 c (ncells n 0 (.slice (some ⟨g',0,none⟩) (ks.length+1) cap')) 90) ∧
  Gr (Ck.blk w3 c (ncells n 0 (.slice (some ⟨g',0,none⟩) (ks.length+1) cap')) 90) w.heap.size c n (bs++[b]) (ks++[T]) (.slice (some ⟨g',0,none⟩) (ks.length+1) cap'):=by
 have hbp:=h0.blk.lt
 have hlo:=h.lo
 have hlt:=h.row.lt
 have hF:Fr [S.bp] w (Ck.blk w3 c (ncells n 0 (.slice (some ⟨g',0,none⟩) (ks.length+1) cap')) 90) :=
  (((hf1.trans hf2).alloc _).grown hg (fun k e=>.inr (by have:=(hlt k e).1;omega))).blk (.inr hlo) _ _
 refine⟨h0.go hF ?_ hps.ha,hF,Gr.push h hf2 (by simp;omega) ht hown hg (hat.imp id (fun e=>by rw[e];simp))⟩
 refine Blk.blk_other ((hps.blk.alloc _).grown hg (fun e=>?_)) (by omega)
 have:=(hlt _ e).1;omega
theorem end_ok {S:PSt} {a b lo hi:Nat} {w:World} {E T:Tree} {ts':TS} (h:PS S a w) (hE:Sp w lo hi b E) (hlo:S.bp<lo) (hhi:hi≤w.heap.size) (hm:pEnd S.F E (S.ts a)=some (.ok (T,ts'))) :
  Calls Tryz.prog 153 #[.pointer (some ⟨S.bp,0,none⟩),.pointer (some ⟨b,0,none⟩)] w (OkT S w lo T ts'):=by
 unfold pEnd at hm
 obtain⟨e,_,h0⟩|⟨v,ts1,hm1,hm⟩:=bind_some hm
 ·cases h0
 rw[pure_eq]at hm
 simp only[Option.some.injEq,Except.ok.injEq,Prod.mk.injEq]at hm
 obtain⟨rfl,rfl⟩:=hm
 go_enter Tryz.func153,Tryz.ntmps153
 go_wp2_with (go_at_call 43;refine(must_ok h hm1).mono ?_;rintro e w1 ⟨rfl,a1,rfl,hps1,hf1⟩)
 go_ret
 exact⟨b,a1,rfl,rfl,hps1,hf1,(hE.fr hf1 (by simp;omega) hhi).wide (Nat.le_refl _) (by have:=hf1.size;omega)⟩
theorem end_er {S:PSt} {a b:Nat} {w:World} {E:Tree} {f:Flt} (h:PS S a w) (hm:pEnd S.F E (S.ts a)=some (.error f)) :
  Calls Tryz.prog 153 #[.pointer (some ⟨S.bp,0,none⟩),.pointer (some ⟨b,0,none⟩)] w (Er S w f):=by
 unfold pEnd at hm
 obtain⟨e,hm1,h0⟩|⟨v,ts1,hm1,hm⟩:=bind_some hm
 ·cases h0
  go_enter Tryz.func153,Tryz.ntmps153
  go_wp2_with (go_at_call 43;refine(must_er h hm1).mono ?_;rintro e w1 ⟨rfl,hf1⟩)
  exact⟨rfl,rfl,hf1⟩
 ·cases hm
theorem pure_some {α β:Type} {x:Ck.P α} {f:α→β} {ts:TS} {r:Except Flt (β × TS)} (h:(x >>= fun y=>pure (f y)) ts=some r) :
  ∃R,x ts=some R∧r=match R with | .error e=>.error e | .ok (y,t)=>.ok (f y,t):=by
 obtain⟨e,h1,rfl⟩|⟨y,t,h1,h2⟩:=bind_some h
 ·exact⟨_,h1,rfl⟩
 ·rw[pure_eq]at h2
  exact⟨_,h1,(Option.some.inj h2).symm⟩
theorem PSt.ts_length (S:PSt) (a:Nat):(S.ts a).length=S.toks.length-a:=by simp[PSt.ts,annot_length]
theorem block_any {S:PSt} {r:Rec} {n:Nat} (hcon:Con 1 r.statement) (ihs:MAny 103 S r.statement):MAny 73 S (pBlock S.F r n):=by
 intro a w res h hm
 have hbp:=h.blk.lt
 have hlim:=h.lim
 obtain⟨i0,hi,hz0,hz1,hz2⟩:=info_parts Tryz.infoSprout
 unfold pBlock at hm
 obtain⟨e,hm1,rfl⟩|⟨at',ts1,hm1,hm⟩:=bind_some hm
 ·go_enter Tryz.func73,Tryz.ntmps73
  go_wp2_with (go_at_call 43;refine(must_er h hm1).mono ?_;rintro e w1 ⟨rfl,hf1⟩)
  exact⟨rfl,rfl,hf1⟩
 obtain⟨R,hm2,hres⟩:=pure_some hm
 have HR:=Lib.hid hres
 have HM:=Lib.hid hm2
 clear hm hres hm2
 go_enter Tryz.func73,Tryz.ntmps73
 go_wp2_with (first|(go_at_call 43;refine(must_ok h hm1).mono ?_;rintro e w1 ⟨rfl,a1,rfl,hps1,hf1⟩;clear hm1)|(go_at_call 39;refine(node_any _ _ _ _ _ ⟨_,_,_,rfl⟩).mono ?_;rintro e w4 ⟨rfl,rfl⟩))
 have hw1:=hf1.size
 obtain⟨c,hc⟩:∃c,Hid (c=w1.heap.size):=⟨_,rfl⟩
 rw[←hc.out]
 go_loopg [] n (fun k wr=>Hid (∃ks bs vk a,blockL S.F r k ks (S.ts a)=some R∧ks.length+(S.ts a).length≤70000∧PS S a wr∧Fr [S.bp] w wr∧Gr wr w.heap.size c ⟨5,at',0,[],0,0⟩ bs ks vk))
 case atStart =>
  apply Lib.hid
  refine⟨[],[],.slice none 0 0,a1,HM.out,by rw[PSt.ts_length];simp;omega,hps1.fr ((Fr.refl [] _).alloc _),hf1.alloc _,?_⟩
  rw[hc.out]
  exact Gr.new w1 w.heap.size ⟨5,at',0,[],0,0⟩ hw1
 case round =>
  clear hps1 hf1 HM
  obtain⟨ks,bs,vk,a,hm,hln,hps,hf,hG⟩:=hrel.out
  clear hrel
  have hbw:=hf.size
  cases gk with
  | zero=>cases hm
  | succ k =>
   simp only[blockL]at hm
   obtain⟨e,hm1,rfl⟩|⟨q,ts1,hm1,hm⟩:=bind_some hm
   ·go_wp2_with (go_at_call 41;refine(skip_er hps hm1).mono ?_;rintro e w1 ⟨rfl,hf1⟩)
    rw[HR.out]
    exact⟨rfl,rfl,hf.trans hf1⟩
   have c1:=skip_ok hps hm1
   have hl1:=skip_con S.F 3 [125] _ _ _ hm1
   clear hm1
   cases q
   ·simp only[Bool.false_eq_true,if_false]at hm
    obtain⟨e,hm2,rfl⟩|⟨T,ts2,hm2,hm⟩:=bind_some hm
    ·go_wp2_with (go_at_call 41;refine c1.mono ?_;rintro e w1 ⟨rfl,a1,rfl,hps1,hf1⟩;clear c1)
     have hG1:=hG.fr hf1 (by simp;omega)
     obtain⟨kc,kz,kset,kb⟩:=hG1.blk.rules
     simp only[ncells]at kc kset
     go_region_dies
     all_goals (go_at_call 103;refine(ihs _ _ _ (hps1.fr (Fr.refl [] _).drew) hm2).mono ?_;rintro e w2 ⟨rfl,hf2⟩)
     all_goals rw[HR.out]
     all_goals exact⟨rfl,rfl,((hf.trans hf1).drew).trans hf2⟩
    have hl2:=hcon _ _ _ hm2
    have HM:=Lib.hid hm;clear hm
    go_wp2_with (go_at_call 41;refine c1.mono ?_;rintro e w1 ⟨rfl,a1,rfl,hps1,hf1⟩;clear c1)
    have hG1:=hG.fr hf1 (by simp;omega)
    obtain⟨kc,kz,kset,kb⟩:=hG1.blk.rules
    simp only[ncells]at kc kset
    have hw1:=hf1.size
    go_region_law (first|(refine step_append_lies _ rfl _ _ 88 rfl (c+1) 55 i0 (.pointer none) 1 8 Tryz.underlying88 hi hz0 hz1 hz2 rfl (by decide) vk ks.length (ptrs bs) rfl (by exact ownsRow_fr hG2.row ((Fr.refl [] _).alloc _) (by simp)) ⟨w2.heap.size,0,none⟩ 1 1 [ptrV b2] rfl rfl (World.news_of_block (Blk.new _ _ _)) (by simp[Value.oneCell',ptrV]) (by omega) (by simp[maxLen];omega) (by omega) (by have:=hG2.blk.lt;simp;omega) _ rfl ?_;intro g' cap' w3 hown3 hg3 hat3 hlt3;obtain⟨qc,qz,qset,qb⟩:=((hG2.blk.alloc _).grown hg3 (fun e=>by have:=(hG2.row.lt _ e).1;omega)).rules;simp only[ncells]at qc qset)|(go_simp;go_at_call 103;refine(ihs _ _ _ (hps1.fr (Fr.refl [] _).drew) hm2).mono ?_;rintro e w2 ⟨b2,a2,rfl,rfl,hps2,hf2,hs2⟩;have hG2:=(hG1.fr (Fr.refl [] _).drew (by simp)).fr hf2 (by simp;omega);obtain⟨rc,rz,rset,rb⟩:=hG2.blk.rules;simp only[ncells]at rc rset))
    all_goals
     go_wp2
     go_roundg k
     case measure=>omega
     case rel =>
      obtain⟨q1,q2,q3⟩:=Gr.step h hG1 (hf.trans hf1) (show Fr [S.bp] w1 w2 from(Fr.refl _ _).drew.trans hf2) hps2 hs2 hown3 hg3 hat3
      exact⟨ks++[T],bs++[b2],_,a2,HM.out,by simp;omega,q1,q2,q3⟩
   ·simp only[if_true,pure_eq,Option.some.injEq]at hm
    subst hm
    go_wp2_with (go_at_call 41;refine c1.mono ?_;rintro e w1 ⟨rfl,a1,rfl,hps1,hf1⟩;clear c1)
    go_ret
    rw[HR.out]
    have hG1:=(hG.fr hf1 (by simp;omega)).sp
    exact⟨c,a1,rfl,rfl,hps1,hf.trans hf1,by simpa[leaf]using hG1⟩
abbrev tokV (t:Tok):Value:=.agg #[.int .i64 t.kind,.int .i64 t.at',.string ⟨t.text.toArray⟩,.int .i64 t.int,.int .u64 t.bits]
abbrev tokB (t:Tok):Obj:=.cells #[.int .i64 t.kind,.int .i64 t.at',.string ⟨t.text.toArray⟩,.int .i64 t.int,.int .u64 t.bits] 82
section
variable {S:PSt} {a:Nat} {w:World}
theorem look_ok (h:PS S a w) {t:Tok} {ts':TS} (hm:Ck.look S.F (S.ts a)=some (.ok (t,ts'))) :
  Calls Tryz.prog 40 #[.pointer (some ⟨S.bp,0,none⟩),.int .i64 0] w fun e w'=>e=.returned (tokV t)∧ts'=S.ts a∧a<S.toks.length∧PS S a w'∧Fr [] w w':=by
 rw[look_eq]at hm
 cases hl:lookAt S.F (S.ts a) with
 | error f=>rw[hl]at hm;cases hm
 | ok x =>
  rw[hl]at hm
  simp only[Option.some.injEq,Except.ok.injEq,Prod.mk.injEq]at hm
  obtain⟨rfl,rfl⟩:=hm
  obtain⟨o,r,hts⟩:=lookAt_cons hl
  exact(peek0 S a w h).mono fun e w' hw=>⟨by rw[hw.1,tokOut_ok hl],rfl,(S.next a hts).1,h.fr hw.2,hw.2⟩
theorem look_er (h:PS S a w) {f:Flt} (hm:Ck.look S.F (S.ts a)=some (.error f)) :
  Calls Tryz.prog 40 #[.pointer (some ⟨S.bp,0,none⟩),.int .i64 0] w (Er S w f):=by
 rw[look_eq]at hm
 cases hl:lookAt S.F (S.ts a) with
 | error g=>rw[hl]at hm;cases hm;exact(peek0 S a w h).mono fun e w' hw=>⟨by rw[hw.1,tokOut_err hl];rfl,hw.2.nil⟩
 | ok x=>rw[hl]at hm;cases hm
theorem look1_ok (h:PS S a w) {t:Tok} {ts':TS} (hm:look1 S.F (S.ts a)=some (.ok (t,ts'))) :
  Calls Tryz.prog 40 #[.pointer (some ⟨S.bp,0,none⟩),.int .i64 1] w fun e w'=>e=.returned (tokV t)∧ts'=S.ts a∧a+1<S.toks.length∧PS S a w'∧Fr [] w w':=by
 unfold look1 at hm
 cases hl:lookAt S.F (S.ts a).tail with
 | error f=>rw[hl]at hm;cases hm
 | ok x =>
  rw[hl]at hm
  simp only[Option.some.injEq,Except.ok.injEq,Prod.mk.injEq]at hm
  obtain⟨rfl,rfl⟩:=hm
  obtain⟨o,r,hts⟩:=lookAt_cons hl
  rw[S.tail]at hts
  exact(peek1 S a w h).mono fun e w' hw=>⟨by rw[hw.1,tokOut_ok hl],rfl,(S.next (a+1) hts).1,h.fr hw.2,hw.2⟩
theorem look1_er (h:PS S a w) {f:Flt} (hm:look1 S.F (S.ts a)=some (.error f)) :
  Calls Tryz.prog 40 #[.pointer (some ⟨S.bp,0,none⟩),.int .i64 1] w (Er S w f):=by
 unfold look1 at hm
 cases hl:lookAt S.F (S.ts a).tail with
 | error g=>rw[hl]at hm;cases hm;exact(peek1 S a w h).mono fun e w' hw=>⟨by rw[hw.1,tokOut_err hl];rfl,hw.2.nil⟩
 | ok x=>rw[hl]at hm;cases hm
end
theorem adv_eq (S:PSt) (a:Nat):adv (S.ts a)=some (.ok ((),S.ts (a+1))):=by unfold adv;rw[S.tail]
theorem PS.adv {S:PSt} {a:Nat} {w w1:World} (h:PS S a w) (hf:Fr [] w w1) (ha:a<S.toks.length) :
  PS S (a+1) (Ck.blk w1 S.bp #[S.vt,.int .i64 S.F.code,.int .i64 S.F.at',S.vo,.int .i64 ((a:Int)+1)] 77):=by
 have h1:=h.fr hf
 exact h1.go (w':=Ck.blk w1 S.bp _ _) ((Fr.refl _ _).blk (by simp) _ _) (Blk.blk h1.blk.lt) ha
def ckV (t:Bytes):Value:=match constantKind t with|some k=>.tuple #[.int .i64 k,.bool true]|none=>.tuple #[.int .i64 0,.bool false]
theorem constants_any (t:Bytes) (w:World):Calls Tryz.prog 307 #[.string ⟨t.toArray⟩] w fun e w'=>e=.returned (ckV t)∧w'=w:=by
 go_enter Tryz.func307,Tryz.ntmps307
 go_wp2
 all_goals exact bodyPost_ret (v:=ckV t) (by simp[results,Tryz.results307,go_sem,ckV,constantKind, *]) rfl ⟨rfl,rfl⟩
theorem wrong_res {S:PSt} {α:Type} {ts:TS} {r:Except Flt (α × TS)} (hm:(wrong S.F:Ck.P α) ts=some r) :
  ∃f,r=.error f∧∀(W:World) (a:Nat),ts=S.ts a→PS S a W→Calls Tryz.prog 45 #[.pointer (some ⟨S.bp,0,none⟩)] W (Er S W f):=by
 have hr:∃f,r=.error f∧f=wrongF S.F ts:=by
  unfold wrong at hm
  obtain⟨e,h1,rfl⟩|⟨t,ts1,h1,h2⟩:=bind_some hm
  ·rw[look_eq]at h1
   cases hl:lookAt S.F ts with
   | error g=>rw[hl]at h1;cases h1;exact⟨_,rfl,by simp[wrongF,hl]⟩
   | ok x=>rw[hl]at h1;cases h1
  ·rw[look_eq]at h1
   cases hl:lookAt S.F ts with
   | error g=>rw[hl]at h1;cases h1
   | ok x=>rw[hl]at h1;cases h1;cases h2;exact⟨_,rfl,by simp[wrongF,hl]⟩
 obtain⟨f,rfl,rfl⟩:=hr
 refine⟨_,rfl,fun W a ha hW=>?_⟩
 subst ha
 exact(wrong_any S a W hW).mono fun e w' hw=>⟨by rw[hw.1];rfl,hw.2.nil⟩
theorem PS.adv' {S:PSt} {a:Nat} {w w1:World} (h:PS S a w1) (ha:a<S.toks.length) (hf:Fr [S.bp] w w1) (o:Obj) :
  PS S (a+1) ((Ck.blk w1 S.bp #[S.vt,.int .i64 S.F.code,.int .i64 S.F.at',S.vo,.int .i64 ((a:Int)+1)] 77).alloc o)∧Fr [S.bp] w ((Ck.blk w1 S.bp #[S.vt,.int .i64 S.F.code,.int .i64 S.F.at',S.vo,.int .i64 ((a:Int)+1)] 77).alloc o) :=
 ⟨(h.adv (Fr.refl [] _) ha).fr ((Fr.refl [] _).alloc o),(hf.blk (.inl (by simp)) _ _).alloc o⟩
structure PKs (S:PSt) (a:Nat) (t:Tok) (w w1:World):Prop where
 ha:a<S.toks.length
 p:PS S a w1
 f:Fr [] w w1
 pA:PS S (a+1) ((Ck.blk w1 S.bp #[S.vt,.int .i64 S.F.code,.int .i64 S.F.at',S.vo,.int .i64 ((a:Int)+1)] 77).alloc (tokB t))
 fA:Fr [S.bp] w ((Ck.blk w1 S.bp #[S.vt,.int .i64 S.F.code,.int .i64 S.F.at',S.vo,.int .i64 ((a:Int)+1)] 77).alloc (tokB t))
 kb:∀k,S.bp<w1.heap.size+k
 pB:PS S a (w1.alloc (tokB t))
 fB:Fr [S.bp] w (w1.alloc (tokB t))
 sz:w.heap.size≤w1.heap.size
theorem look_pk {S:PSt} {a:Nat} {w:World} (h:PS S a w) {t:Tok} {ts':TS} (hm:Ck.look S.F (S.ts a)=some (.ok (t,ts'))) :
  Calls Tryz.prog 40 #[.pointer (some ⟨S.bp,0,none⟩),.int .i64 0] w fun e w1=>e=.returned (tokV t)∧PKs S a t w w1:=by
 refine(look_ok h hm).mono ?_
 rintro e w1 ⟨rfl,_,ha,hps1,hf1⟩
 obtain⟨hpsA,hfA⟩:=hps1.adv' ha hf1.nil (tokB t)
 have hb:=hps1.blk.lt
 exact⟨rfl,ha,hps1,hf1,hpsA,hfA,fun k=>by omega,hps1.fr ((Fr.refl [] _).alloc (tokB t)),hf1.nil.alloc (tokB t),hf1.size⟩
theorem leaf_sp {W:World} {lo:Nat} (n:Ck.Node) (h:lo≤W.heap.size):Sp (W.alloc (.cells (ncells n 0 (.slice none 0 0)) 90)) lo (W.heap.size+1) W.heap.size (.mk n []):=by
 have:=(Gr.new W lo n h).sp
 simpa using this
theorem primary_any {S:PSt} {r:Rec} {n:Nat} (hcon:Con 1 r.expr) (ihe:MAny 154 S r.expr):MAny 298 S (pPrimary S.F r n):=by
 intro a w res h hm
 have hbp:=h.blk.lt
 have hlim:=h.lim
 obtain⟨i0,hi,hz0,hz1,hz2⟩:=info_parts Tryz.infoSprout
 unfold pPrimary at hm
 obtain⟨e,hm1,rfl⟩|⟨t,ts1,hm1,hm⟩:=bind_some hm
 ·go_enter Tryz.func298,Tryz.ntmps298
  go_wp2_with (go_at_call 40;refine(look_er h hm1).mono ?_;rintro e w1 ⟨rfl,hf1⟩)
  exact⟨rfl,rfl,hf1⟩
 have c1:=look_pk h hm1
 obtain rfl:ts1=S.ts a:=by rw[look_eq]at hm1;split at hm1<;>first|(cases hm1;rfl)|cases hm1
 clear hm1
 cases h4:t.kind==4
 case true =>
  simp only[h4,Bool.false_eq_true,if_false,if_true,bind_eq,P.bind,adv_eq,pure_eq,Option.some.injEq]at hm
  subst hm
  go_enter Tryz.func298,Tryz.ntmps298
  go_wp2_with (go_at_call 40;refine c1.mono ?_;rintro e w1 ⟨rfl,ha,hps1,hf1,hpsA,hfA,kb',_⟩;obtain⟨kc,kz,kset,kb⟩:=hps1.blk.rules)
  go_ret
  have hs:=leaf_sp (lo:=w.heap.size) ⟨26,t.at',0,[],t.int,0⟩ hfA.size
  simp only[World.size_alloc,blk_size]at hs
  exact⟨_,a+1,rfl,rfl,hpsA.fr ((Fr.refl _ _).alloc _),hfA.alloc _,by simpa[ncells,leaf,blk_size,tokB]using hs⟩
 cases h5:t.kind==5
 case true =>
  simp only[h4,h5,Bool.false_eq_true,if_false,if_true,bind_eq,P.bind,adv_eq,pure_eq,Option.some.injEq]at hm
  subst hm
  go_enter Tryz.func298,Tryz.ntmps298
  go_wp2_with (go_at_call 40;refine c1.mono ?_;rintro e w1 ⟨rfl,ha,hps1,hf1,hpsA,hfA,kb',_⟩;obtain⟨kc,kz,kset,kb⟩:=hps1.blk.rules)
  go_ret
  have hs:=leaf_sp (lo:=w.heap.size) ⟨27,t.at',0,[],0,t.bits⟩ hfA.size
  simp only[World.size_alloc,blk_size]at hs
  exact⟨_,a+1,rfl,rfl,hpsA.fr ((Fr.refl _ _).alloc _),hfA.alloc _,by simpa[ncells,leaf,blk_size,tokB]using hs⟩
 cases h6:t.kind==6
 case true =>
  simp only[h4,h5,h6,Bool.false_eq_true,if_false,if_true,bind_eq,P.bind,adv_eq,pure_eq,Option.some.injEq]at hm
  subst hm
  go_enter Tryz.func298,Tryz.ntmps298
  go_wp2_with (first|(go_at_call 40;refine c1.mono ?_;rintro e w1 ⟨rfl,ha,hps1,hf1,hpsA,hfA,kb',_⟩;obtain⟨kc,kz,kset,kb⟩:=hps1.blk.rules)|(go_at_call 39;refine(node_any _ _ _ _ _ ⟨_,_,_,rfl⟩).mono ?_;rintro e w9 ⟨rfl,rfl⟩))
  go_ret
  have hs:=leaf_sp (lo:=w.heap.size) ⟨28,t.at',0,t.text,0,0⟩ hfA.size
  simp only[World.size_alloc,blk_size]at hs
  exact⟨_,a+1,rfl,rfl,hpsA.fr ((Fr.refl _ _).alloc _),hfA.alloc _,by simpa[ncells,leaf,blk_size,tokB]using hs⟩
 cases h2:t.kind==2
 case true =>
  simp only[h4,h5,h6,h2,Bool.false_eq_true,if_false,if_true]at hm
  cases hk:constantKind t.text with
  | some k =>
   have HK:ckV t.text=.tuple #[.int .i64 k,.bool true]:=by rw[ckV,hk]
   simp only[hk,bind_eq,P.bind,adv_eq,pure_eq,Option.some.injEq]at hm
   subst hm
   have cc:=constants_any t.text
   rw[HK]at cc
   clear HK hk
   go_enter Tryz.func298,Tryz.ntmps298
   go_wp2_with (first|(go_at_call 40;refine c1.mono ?_;rintro e w1 ⟨rfl,ha,hps1,hf1,hpsA,hfA,kb',_⟩;obtain⟨kc,kz,kset,kb⟩:=hps1.blk.rules)|(go_at_call 307;refine(cc _).mono ?_;rintro e w8 ⟨rfl,rfl⟩)|(go_at_call 39;refine(node_any _ _ _ _ _ ⟨_,_,_,rfl⟩).mono ?_;rintro e w9 ⟨rfl,rfl⟩))
   go_ret
   have hs:=leaf_sp (lo:=w.heap.size) ⟨k,t.at',0,[],0,0⟩ hfA.size
   simp only[World.size_alloc,blk_size]at hs
   exact⟨_,a+1,rfl,rfl,hpsA.fr ((Fr.refl _ _).alloc _),hfA.alloc _,by simpa[ncells,leaf,blk_size,tokB]using hs⟩
  | none =>
   have HK:ckV t.text=.tuple #[.int .i64 0,.bool false]:=by rw[ckV,hk]
   simp only[hk]at hm
   have cc:=constants_any t.text
   rw[HK]at cc
   obtain⟨f,rfl,cw⟩:=wrong_res hm
   clear HK hk hm
   go_enter Tryz.func298,Tryz.ntmps298
   go_wp2_with (first|(go_at_call 40;refine c1.mono ?_;rintro e w1 ⟨rfl,ha,hps1,hf1,hpsA,hfA,kb',_⟩;obtain⟨kc,kz,kset,kb⟩:=hps1.blk.rules)|(go_at_call 307;refine(cc _).mono ?_;rintro e w8 ⟨rfl,rfl⟩)|(go_at_call 45;refine(cw _ a rfl (hps1.fr ((Fr.refl [] _).alloc (tokB t)))).mono ?_;rintro e w8 ⟨rfl,hf8⟩))
   exact⟨rfl,rfl,(hf1.nil.alloc _).trans hf8⟩
 cases h1:t.kind==1
 case true =>
  simp only[h4,h5,h6,h2,h1,Bool.false_eq_true,if_false,if_true]at hm
  rw[bind_eq,P.bind,adv_eq]at hm
  simp only at hm
  obtain⟨e,hm2,rfl⟩|⟨q,ts2,hm2,hm⟩:=bind_some hm
  ·go_enter Tryz.func298,Tryz.ntmps298
   go_wp2_with (first|(go_at_call 40;refine c1.mono ?_;rintro e w1 ⟨rfl,ha,hps1,hf1,hpsA,hfA,kb',_⟩;obtain⟨kc,kz,kset,kb⟩:=hps1.blk.rules)|(go_at_call 41;refine(skip_er hpsA hm2).mono ?_;rintro e w2 ⟨rfl,hf2⟩))
   exact⟨rfl,rfl,hfA.trans hf2⟩
  have hl2:=skip_con S.F 3 [40] _ _ _ hm2
  have c2:=fun W (hW:PS S (a+1) W)=>skip_ok hW hm2
  clear hm2
  cases q
  ·simp only[Bool.false_eq_true,if_false,pure_eq,Option.some.injEq]at hm
   subst hm
   go_enter Tryz.func298,Tryz.ntmps298
   go_wp2_with (first|(go_at_call 40;refine c1.mono ?_;rintro e w1 ⟨rfl,ha,hps1,hf1,hpsA,hfA,kb',_⟩;obtain⟨kc,kz,kset,kb⟩:=hps1.blk.rules)|(go_at_call 41;refine(c2 _ hpsA).mono ?_;rintro e w2 ⟨rfl,a2,rfl,hps2,hf2⟩;clear c2;obtain⟨tc,tz,tset,tb⟩:=(((Blk.new _ _ _:Blk ((Ck.blk w1 S.bp #[S.vt,.int .i64 S.F.code,.int .i64 S.F.at',S.vo,.int .i64 ((a:Int)+1)] 77).alloc (tokB t)) _ _ _)).fr hf2 (by simp[blk_size];omega)).rules;simp only[blk_size]at tc tz tset tb)|(go_at_call 39;refine(node_any _ _ _ _ _ ⟨_,_,_,rfl⟩).mono ?_;rintro e w9 ⟨rfl,rfl⟩))
   go_ret
   have hs:=leaf_sp (lo:=w.heap.size) (W:=w2) ⟨25,t.at',0,t.text,0,0⟩ (hfA.trans hf2).size
   exact⟨_,a2,rfl,rfl,hps2.fr ((Fr.refl _ _).alloc _),(hfA.trans hf2).alloc _,by simpa[ncells,leaf,blk_size,tokB]using hs⟩
  ·simp only[if_true]at hm
   obtain⟨e,hm3,rfl⟩|⟨q2,ts3,hm3,hm⟩:=bind_some hm
   ·go_enter Tryz.func298,Tryz.ntmps298
    go_wp2_with (first|(go_at_call 40;refine c1.mono ?_;rintro e w1 ⟨rfl,ha,hps1,hf1,hpsA,hfA,kb',_⟩;obtain⟨kc,kz,kset,kb⟩:=hps1.blk.rules)|(go_at_call 41;refine(c2 _ hpsA).mono ?_;rintro e w2 ⟨rfl,a2,rfl,hps2,hf2⟩;clear c2;obtain⟨tc,tz,tset,tb⟩:=(((Blk.new _ _ _:Blk ((Ck.blk w1 S.bp #[S.vt,.int .i64 S.F.code,.int .i64 S.F.at',S.vo,.int .i64 ((a:Int)+1)] 77).alloc (tokB t)) _ _ _)).fr hf2 (by simp[blk_size];omega)).rules;simp only[blk_size]at tc tz tset tb)|(go_at_call 39;refine(node_any _ _ _ _ _ ⟨_,_,_,rfl⟩).mono ?_;rintro e w9 ⟨rfl,rfl⟩)|(go_at_call 41;refine(skip_er (hps2.fr ((Fr.refl [] _).alloc _)) hm3).mono ?_;rintro e w3 ⟨rfl,hf3⟩))
    exact⟨rfl,rfl,((hfA.trans hf2).alloc _).trans hf3⟩
   have c3:=fun a W (ha:ts2=S.ts a) (hW:PS S a W)=>skip_ok hW (by rw[←ha];exact hm3)
   have hR:∃R,(if q2=true then R=.ok ([],ts3)else callL S.F r n [] ts3=some R)∧res=match R with | .error e=>.error e | .ok (y,ts)=>.ok (leaf 23 t.at' t.text y,ts):=by
    cases q2
    ·simp only[Bool.false_eq_true,if_false]at hm ⊢
     obtain⟨R,h1,h2⟩:=pure_some hm
     exact⟨R,h1,by rw[h2];rcases R with e|⟨y,ts⟩<;>rfl⟩
    ·simp only[if_true,pure_eq,Option.some.injEq]at hm ⊢
     exact⟨_,rfl,hm.symm⟩
   obtain⟨R,hR,hres⟩:=hR
   have HR:=Lib.hid hres
   have HM:=Lib.hid hR
   clear hm hres hR hm3
   go_enter Tryz.func298,Tryz.ntmps298
   go_wp2_with (first|(go_at_call 40;refine c1.mono ?_;rintro e w1 ⟨rfl,ha,hps1,hf1,hpsA,hfA,kb',_⟩;obtain⟨kc,kz,kset,kb⟩:=hps1.blk.rules)|(go_at_call 41;refine(c2 _ hpsA).mono ?_;rintro e w2 ⟨rfl,a2,ha2,hps2,hf2⟩;clear c2;obtain⟨tc,tz,tset,tb⟩:=(((Blk.new _ _ _:Blk ((Ck.blk w1 S.bp #[S.vt,.int .i64 S.F.code,.int .i64 S.F.at',S.vo,.int .i64 ((a:Int)+1)] 77).alloc (tokB t)) _ _ _)).fr hf2 (by simp[blk_size];omega)).rules;simp only[blk_size]at tc tz tset tb)|(go_at_call 39;refine(node_any _ _ _ _ _ ⟨_,_,_,rfl⟩).mono ?_;rintro e w9 ⟨rfl,rfl⟩)|(go_at_call 41;refine(c3 _ _ ha2 (hps2.fr ((Fr.refl [] _).alloc _))).mono ?_;rintro e w3 ⟨rfl,a3,rfl,hps3,hf3⟩;clear c3))
   have hfB:=hfA.trans hf2
   have hfC:=(hfB.alloc (.cells (ncells ⟨23,t.at',0,t.text,0,0⟩ 0 (.slice none 0 0)) 90)).trans hf3
   have hG0:=(Gr.new w2 w.heap.size ⟨23,t.at',0,t.text,0,0⟩ hfB.size).fr hf3 (by simp;omega)
   clear tc tz tset tb kc kz kset kb kb' hpsA hfA hps1 hf1 hf2 hps2 c1 hfB
   obtain⟨c,hc⟩:∃c,Hid (c=w2.heap.size):=⟨_,rfl⟩
   rw[←hc.out]at hG0 ⊢
   clear hc
   go_loopg [7] n (fun k v wr=>∃q,v=.bool q∧Hid (∃ks bs vk a,(if q=true then callL S.F r k ks (S.ts a)=some R else R=.ok (ks,S.ts a))∧ks.length+(S.ts a).length≤70000∧PS S a wr∧Fr [S.bp] w wr∧Gr wr w.heap.size c ⟨23,t.at',0,t.text,0,0⟩ bs ks vk))
   case atStart =>
    refine⟨!q2,rfl,[],[],.slice none 0 0,a3,?_,by rw[PSt.ts_length];simp;omega,hps3,hfC,hG0⟩
    have:=HM.out
    cases q2<;>simpa using this
   case round =>
    clear hps3 hfC hG0 HM hf3
    obtain⟨q,rfl,hq⟩:=hrel
    obtain⟨ks,bs,vk,a,hm,hln,hps,hf,hG⟩:=hq.out
    clear hq
    have hbw:=hf.size
    cases q
    ·simp only[Bool.false_eq_true,if_false]at hm
     subst hm
     go_wp2
     go_ret
     rw[HR.out]
     exact⟨c,a,rfl,rfl,hps,hf,by simpa[leaf]using hG.sp⟩
    ·simp only[if_true]at hm
     cases gk with
     | zero=>cases hm
     | succ k =>
      simp only[callL]at hm
      obtain⟨e,hm2,rfl⟩|⟨T,ts2,hm2,hm⟩:=bind_some hm
      ·go_wp2
       obtain⟨kc,kz,kset,kb⟩:=hG.blk.rules
       simp only[ncells]at kc kset
       go_region_dies
       all_goals (go_at_call 154;refine(ihe _ _ _ (hps.fr (Fr.refl [] _).drew) hm2).mono ?_;rintro e w2 ⟨rfl,hf2⟩)
       all_goals rw[HR.out]
       all_goals exact⟨rfl,rfl,(hf.drew).trans hf2⟩
      have hl2:=hcon _ _ _ hm2
      have HM:=Lib.hid hm;clear hm
      go_wp2
      obtain⟨kc,kz,kset,kb⟩:=hG.blk.rules
      simp only[ncells]at kc kset
      go_region_law (first|(refine step_append_lies _ rfl _ _ 88 rfl (c+1) 55 i0 (.pointer none) 1 8 Tryz.underlying88 hi hz0 hz1 hz2 rfl (by decide) vk ks.length (ptrs bs) rfl (by exact ownsRow_fr hG2.row ((Fr.refl [] _).alloc _) (by simp)) ⟨w2.heap.size,0,none⟩ 1 1 [ptrV b2] rfl rfl (World.news_of_block (Blk.new _ _ _)) (by simp[Value.oneCell',ptrV]) (by omega) (by simp[maxLen];omega) (by omega) (by have:=hG2.blk.lt;simp;omega) _ rfl ?_;intro g' cap' w3 hown3 hg3 hat3 hlt3;obtain⟨qc,qz,qset,qb⟩:=((hG2.blk.alloc _).grown hg3 (fun e=>by have:=(hG2.row.lt _ e).1;omega)).rules;simp only[ncells]at qc qset)|(go_simp;go_at_call 154;refine(ihe _ _ _ (hps.fr (Fr.refl [] _).drew) hm2).mono ?_;rintro e w2 ⟨b2,a2,rfl,rfl,hps2,hf2,hs2⟩;have hG2:=(hG.fr (Fr.refl [] _).drew (by simp)).fr hf2 (by simp;omega);obtain⟨rc,rz,rset,rb⟩:=hG2.blk.rules;simp only[ncells]at rc rset))
      all_goals
       obtain⟨q1,q2,q3⟩:=Gr.step h hG hf (show Fr [S.bp] wr w2 from(Fr.refl _ _).drew.trans hf2) hps2 hs2 hown3 hg3 hat3
       obtain⟨W3,hW3⟩:∃X,X=Ck.blk w3 c (ncells ⟨23,t.at',0,t.text,0,0⟩ 0 (.slice (some ⟨g',0,none⟩) (ks.length+1) cap')) 90:=⟨_,rfl⟩
       simp only[ncells]at hW3
       rw[←hW3]
       have q1':PS S a2 W3:=by rw[hW3];exact q1
       have q2':Fr [S.bp] w W3:=by rw[hW3];exact q2
       have q3':=q3
       rw[show Ck.blk w3 c (ncells ⟨23,t.at',0,t.text,0,0⟩ 0 (.slice (some ⟨g',0,none⟩) (ks.length+1) cap')) 90=W3 from hW3.symm]at q3'
       clear q1 q2 q3 hW3 hown3 hg3 hat3 hlt3 qc qz qset qb rc rz rset rb hG2 hps2 hs2 kc kz kset kb
       have hm:=HM.out
       obtain⟨e,hm3,rfl⟩|⟨p,ts3,hm3,hm⟩:=bind_some hm
       ·go_wp2_with (go_at_call 41;refine(skip_er q1' hm3).mono ?_;rintro e w4 ⟨rfl,hf4⟩)
        rw[HR.out]
        exact⟨rfl,rfl,q2'.trans hf4⟩
       have hl3:=skip_con S.F 3 [44] _ _ _ hm3
       cases p
       ·simp only[Bool.false_eq_true,if_false]at hm
        obtain⟨e,hm4,rfl⟩|⟨u,ts4,hm4,hm⟩:=bind_some hm
        ·go_wp2_with (first|(go_at_call 41;refine(skip_ok q1' hm3).mono ?_;rintro e w4 ⟨rfl,a4,rfl,hps4,hf4⟩;clear hm3)|(go_at_call 43;refine(must_er hps4 hm4).mono ?_;rintro e w5 ⟨rfl,hf5⟩))
         rw[HR.out]
         exact⟨rfl,rfl,(q2'.trans hf4).trans hf5⟩
        have hl4:=must_con S.F 3 [41] _ _ _ hm4
        rw[pure_eq]at hm
        simp only[Option.some.injEq]at hm
        have HE:=Lib.hid hm;clear hm HM
        go_wp2_with (first|(go_at_call 41;refine(skip_ok q1' hm3).mono ?_;rintro e w4 ⟨rfl,a4,rfl,hps4,hf4⟩;clear hm3)|(go_at_call 43;refine(must_ok hps4 hm4).mono ?_;rintro e w5 ⟨rfl,a5,rfl,hps5,hf5⟩;clear hm4))
        go_roundg k
        case measure=>omega
        case rel=>exact⟨false,rfl,ks++[T],bs++[b2],_,a5,by simpa using HE.out.symm,by simp;omega,hps5,(q2'.trans hf4).trans hf5,(q3'.fr hf4 (by simp;omega)).fr hf5 (by simp;omega)⟩
       ·simp only[if_true]at hm
        have HE:=Lib.hid hm;clear hm HM
        go_wp2_with (go_at_call 41;refine(skip_ok q1' hm3).mono ?_;rintro e w4 ⟨rfl,a4,rfl,hps4,hf4⟩;clear hm3)
        go_roundg k
        case measure=>omega
        case rel=>exact⟨true,rfl,ks++[T],bs++[b2],_,a4,by simpa using HE.out,by simp;omega,hps4,q2'.trans hf4,q3'.fr hf4 (by simp;omega)⟩
 cases h3:t.kind==3
 case true =>
  simp only[h4,h5,h6,h2,h1,h3,Bool.false_eq_true,if_false,if_true]at hm
  obtain⟨e,hm2,rfl⟩|⟨q,ts2,hm2,hm⟩:=bind_some hm
  ·go_enter Tryz.func298,Tryz.ntmps298
   go_wp2_with (first|(go_at_call 40;refine c1.mono ?_;rintro e w1 ⟨rfl,ha,hps1,hf1,hpsA,hfA,kb',_⟩;obtain⟨kc,kz,kset,kb⟩:=hps1.blk.rules)|(go_at_call 41;refine(skip_er (hps1.fr ((Fr.refl [] _).alloc (tokB t))) hm2).mono ?_;rintro e w2 ⟨rfl,hf2⟩))
   exact⟨rfl,rfl,(hf1.nil.alloc _).trans hf2⟩
  have c2:=fun W (hW:PS S a W)=>skip_ok hW hm2
  clear hm2
  cases q
  ·simp only[Bool.false_eq_true,if_false]at hm
   obtain⟨f,rfl,cw⟩:=wrong_res hm
   clear hm
   go_enter Tryz.func298,Tryz.ntmps298
   go_wp2_with (first|(go_at_call 40;refine c1.mono ?_;rintro e w1 ⟨rfl,ha,hps1,hf1,hpsA,hfA,kb',_⟩;obtain⟨kc,kz,kset,kb⟩:=hps1.blk.rules)|(go_at_call 41;refine(c2 _ (hps1.fr ((Fr.refl [] _).alloc (tokB t)))).mono ?_;rintro e w2 ⟨rfl,a2,rfl,hps2,hf2⟩;clear c2)|(go_at_call 45;refine(cw _ _ rfl hps2).mono ?_;rintro e w8 ⟨rfl,hf8⟩))
   exact⟨rfl,rfl,((hf1.nil.alloc _).trans hf2).trans hf8⟩
  ·simp only[if_true]at hm
   obtain⟨e,hm3,rfl⟩|⟨E,ts3,hm3,hm⟩:=bind_some hm
   ·go_enter Tryz.func298,Tryz.ntmps298
    go_wp2_with (first|(go_at_call 40;refine c1.mono ?_;rintro e w1 ⟨rfl,ha,hps1,hf1,hpsA,hfA,kb',_⟩;obtain⟨kc,kz,kset,kb⟩:=hps1.blk.rules)|(go_at_call 41;refine(c2 _ (hps1.fr ((Fr.refl [] _).alloc (tokB t)))).mono ?_;rintro e w2 ⟨rfl,a2,rfl,hps2,hf2⟩;clear c2)|(go_at_call 154;refine(ihe _ _ _ hps2 hm3).mono ?_;rintro e w3 ⟨rfl,hf3⟩))
    exact⟨rfl,rfl,((hf1.nil.alloc _).trans hf2).trans hf3⟩
   obtain⟨e,hm4,rfl⟩|⟨u,ts4,hm4,hm⟩:=bind_some hm
   ·go_enter Tryz.func298,Tryz.ntmps298
    go_wp2_with (first|(go_at_call 40;refine c1.mono ?_;rintro e w1 ⟨rfl,ha,hps1,hf1,hpsA,hfA,kb',_⟩;obtain⟨kc,kz,kset,kb⟩:=hps1.blk.rules)|(go_at_call 41;refine(c2 _ (hps1.fr ((Fr.refl [] _).alloc (tokB t)))).mono ?_;rintro e w2 ⟨rfl,a2,rfl,hps2,hf2⟩;clear c2)|(go_at_call 154;refine(ihe _ _ _ hps2 hm3).mono ?_;rintro e w3 ⟨b3,a3,rfl,rfl,hps3,hf3,hs3⟩;clear hm3)|(go_at_call 43;refine(must_er hps3 hm4).mono ?_;rintro e w4 ⟨rfl,hf4⟩))
    exact⟨rfl,rfl,(((hf1.nil.alloc _).trans hf2).trans hf3).trans hf4⟩
   rw[pure_eq]at hm
   simp only[Option.some.injEq]at hm
   subst hm
   go_enter Tryz.func298,Tryz.ntmps298
   go_wp2_with (first|(go_at_call 40;refine c1.mono ?_;rintro e w1 ⟨rfl,ha,hps1,hf1,hpsA,hfA,kb',_⟩;obtain⟨kc,kz,kset,kb⟩:=hps1.blk.rules)|(go_at_call 41;refine(c2 _ (hps1.fr ((Fr.refl [] _).alloc (tokB t)))).mono ?_;rintro e w2 ⟨rfl,a2,rfl,hps2,hf2⟩;clear c2)|(go_at_call 154;refine(ihe _ _ _ hps2 hm3).mono ?_;rintro e w3 ⟨b3,a3,rfl,rfl,hps3,hf3,hs3⟩;clear hm3)|(go_at_call 43;refine(must_ok hps3 hm4).mono ?_;rintro e w4 ⟨rfl,a4,rfl,hps4,hf4⟩;clear hm4))
   go_ret
   have hfa:=(hf1.nil (T:=[S.bp]) |>.alloc (tokB t)).trans hf2
   exact⟨b3,a4,rfl,rfl,hps4,(hfa.trans hf3).trans hf4,(hs3.fr hf4 (by have:=hfa.size;simp;omega) (Nat.le_refl _)).wide hfa.size hf4.size⟩
 simp only[h4,h5,h6,h2,h1,h3,Bool.false_eq_true,if_false]at hm
 obtain⟨f,rfl,cw⟩:=wrong_res hm
 clear hm
 go_enter Tryz.func298,Tryz.ntmps298
 go_wp2_with (first|(go_at_call 40;refine c1.mono ?_;rintro e w1 ⟨rfl,ha,hps1,hf1,hpsA,hfA,kb',_⟩;obtain⟨kc,kz,kset,kb⟩:=hps1.blk.rules)|(go_at_call 45;refine(cw _ a rfl (hps1.fr ((Fr.refl [] _).alloc (tokB t)))).mono ?_;rintro e w8 ⟨rfl,hf8⟩))
 exact⟨rfl,rfl,(hf1.nil.alloc _).trans hf8⟩
end Go.Proofs.YtoomapkcoibmhaaGreatDoor
end
