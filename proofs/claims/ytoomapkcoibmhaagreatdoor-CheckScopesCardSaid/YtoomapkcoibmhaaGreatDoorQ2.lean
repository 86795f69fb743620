/- A part of the proof. -/
import Derived.Test.YtoomapkcoibmhaaGreatDoorQ1
set_option maxRecDepth 100000
set_option maxHeartbeats 12800000
set_option linter.all false
section
namespace Ck
theorem Pr.bind_eq {α β:Type} (x:Pr α) (f:α→Pr β) (s:List Node × List Bytes):(x >>= f) s=Pr.bind x f s:=rfl
theorem Pr.pure_eq {α:Type} (a:α) (s:List Node × List Bytes):(Pure.pure a:Pr α) s=some (some (a,s)):=rfl
def ncost (n:Node):Nat:=n.text.length*5+(decI n.int).length+(floatT n.bits.toNat).length+400
theorem ncost_ge (n:Node):n.text.length*5+400≤ncost n:=by unfold ncost;omega
def cost (l:List Node):Nat:=(l.map ncost).sum
def phi (s:List Node × List Bytes):Nat:=tw s.2+cost s.1
def Liv {α:Type} (m:Pr α) (Q:α→Nat→Nat→Prop) (L c:Nat):Prop :=
 ∀s:List Node × List Bytes,s.1.length≤L→phi s+c≤wlim→m s≠none∧∀a s',m s=some (some (a,s'))→∃L' c',s'.1.length≤L'∧phi s'+c'≤phi s+c∧Q a L' c'
section
variable {α β:Type} {L c:Nat}
theorem Liv.bind {x:Pr α} {f:α→Pr β} {Q:β→Nat→Nat→Prop} (h:Liv x (fun a L' c'=>Liv (f a) Q L' c') L c):Liv (x >>= f) Q L c:=by
 intro s hl hc
 obtain⟨h1,h2⟩:=h s hl hc
 rw[Pr.bind_eq]
 unfold Pr.bind
 split
 ·rename_i he;exact absurd he h1
 ·exact⟨by simp,fun a s' e=>by cases e⟩
 ·rename_i a s1 he
  obtain⟨L1,c1,g1,g2,g3⟩:=h2 a s1 he
  obtain⟨k1,k2⟩:=g3 s1 g1 (by omega)
  refine⟨k1,fun b s2 e=>?_⟩
  obtain⟨L2,c2,j1,j2,j3⟩:=k2 b s2 e
  exact⟨L2,c2,j1,by omega,j3⟩
theorem Liv.pure {a:α} {Q:α→Nat→Nat→Prop} (h:Q a L c):Liv (pure a:Pr α) Q L c:=by
 intro s hl hc
 rw[Pr.pure_eq]
 exact⟨by simp,fun b s' e=>by cases e;exact⟨L,c,hl,Nat.le_refl _,h⟩⟩
theorem Liv.mono {m:Pr α} {Q R:α→Nat→Nat→Prop} {L' d:Nat} (h:Liv m Q L' d) (hL:L≤L') (hd:d≤c) (hQ:∀a l k,Q a l k→R a l (k+(c-d))):Liv m R L c:=by
 intro s hl hc
 obtain⟨h1,h2⟩:=h s (by omega) (by omega)
 refine⟨h1,fun a s' e=>?_⟩
 obtain⟨l,k,g1,g2,g3⟩:=h2 a s' e
 exact⟨l,k+(c-d),g1,by omega,hQ a l k g3⟩
theorem Liv.ite {b:Prop} [Decidable b] {x y:Pr α} {Q:α→Nat→Nat→Prop} (hx:b→Liv x Q L c) (hy:¬b→Liv y Q L c):Liv (if b then x else y) Q L c:=by
 split
 ·rename_i h;exact hx h
 ·rename_i h;exact hy h
end
theorem liv_fit {b:Bool} {Q:Unit→Nat→Nat→Prop} {L c:Nat} (h:b=true→Q () L c):Liv (fit b) Q L c:=by
 intro s hl hc
 unfold fit
 split
 ·rename_i hb;exact⟨by simp,fun a s' e=>by cases e;exact⟨L,c,hl,Nat.le_refl _,h hb⟩⟩
 ·exact⟨by simp,fun a s' e=>by cases e⟩
theorem tw_append (a b:List Bytes):tw (a++b)=tw a+tw b:=by simp[tw]
theorem tw_cons (x:Bytes) (l:List Bytes):tw (x::l)=x.length+16+tw l:=by simp[tw]
theorem tw_nil:tw []=0:=rfl
theorem liv_put {l:List Bytes} {Q:Unit→Nat→Nat→Prop} {L c:Nat} (hw:tw l≤c) (h:Q () L (c-tw l)):Liv (put l) Q L c:=by
 intro s hl hc
 unfold put
 have hp:phi s=tw s.2+cost s.1:=rfl
 rw[if_pos (by rw[tw_append];omega)]
 refine⟨by simp,fun a s' e=>?_⟩
 cases e
 exact⟨L,c-tw l,hl,by show tw (s.2++l)+cost s.1+_≤_;rw[tw_append];omega,h⟩
theorem liv_kind {Q:Int→Nat→Nat→Prop} {L c:Nat} (h:∀k,Q k L c):Liv nkind Q L c:=by
 intro s hl hc
 exact⟨by simp[nkind],fun a s' e=>by cases e;exact⟨L,c,hl,Nat.le_refl _,h _⟩⟩
theorem liv_next {t u v:Bool} {Q:Node→Nat→Nat→Prop} {L c:Nat} (h:∀n,1≤L→Q n (L-1) (c+ncost n)):Liv (nnext t u v) Q L c:=by
 intro s hl hc
 obtain⟨l,toks⟩:=s
 unfold nnext
 cases l with
 | nil=>exact⟨by simp,fun a s' e=>by cases e⟩
 | cons n l =>
  simp only
  split
  ·refine⟨by simp,fun a s' e=>?_⟩
   cases e
   simp only[List.length_cons]at hl
   have:phi (n::l,toks)=phi (l,toks)+ncost n:=by simp[phi,cost];omega
   exact⟨L-1,c+ncost n,by show l.length≤_;omega,by omega,h n (by omega)⟩
  ·exact⟨by simp,fun a s' e=>by cases e⟩
theorem liv_name {s:Bytes} {Q:Bytes→Nat→Nat→Prop} {L c:Nat} (h:Q s L c):Liv (nameP s) Q L c :=
 Liv.bind (liv_fit fun _=>Liv.pure h)
theorem liv_named {kind kids:Int} {Q:Bytes→Nat→Nat→Prop} {L c:Nat} (h:∀n,1≤L→Q n.text (L-1) (c+ncost n)):Liv (namedP kind kids) Q L c :=
 Liv.bind (liv_kind fun _=>Liv.bind (liv_fit fun _=>Liv.bind (liv_next fun n hl=>Liv.bind (liv_fit fun _=>liv_name (h n hl)))))
theorem liv_bare {kind kids:Int} {Q:Unit→Nat→Nat→Prop} {L c:Nat} (h:∀n,1≤L→Q () (L-1) (c+ncost n)):Liv (bareP kind kids) Q L c :=
 Liv.bind (liv_kind fun _=>Liv.bind (liv_fit fun _=>Liv.bind (liv_next fun n hl=>liv_fit fun _=>h n hl)))
def Meth (m:Pr Unit) (L:Nat):Prop:=∀l,l≤L→Liv m (fun _ l' c'=>l'+1≤l∧150≤c') l 100
theorem Meth.use {m:Pr Unit} {L l c:Nat} (h:Meth m L) (hl:l≤L) (hc:100≤c) {Q:Unit→Nat→Nat→Prop} (hQ:∀l' c',l'+1≤l→c+50≤c'→Q () l' c'):Liv m Q l c :=
 (h l hl).mono (Nat.le_refl _) hc (fun _ l' k ⟨h1,h2⟩=>hQ l' _ h1 (by omega))
theorem liv_rep {x:Pr Unit} {L:Nat} (h:Meth x L):∀(n l c:Nat) (Q:Unit→Nat→Nat→Prop),l≤L→100≤c→(∀l' c',l'≤l→c≤c'→Q () l' c')→Liv (repP x n) Q l c
 | 0,l,c,Q,_,_,hQ=>Liv.pure (hQ _ _ (Nat.le_refl _) (Nat.le_refl _))
 | n+1,l,c,Q,hl,hc,hQ=>Liv.bind (h.use hl hc fun l' c' h1 h2=>liv_rep h n l' c' Q (by omega) (by omega) (fun l'' c'' g1 g2=>hQ _ _ (by omega) (by omega)))
section
variable {r:PRec} {L:Nat}
theorem liv_indexed (he:Meth r.expr L) {l c:Nat} {Q:Unit→Nat→Nat→Prop} (hl:l≤L) (hc:150≤c) (hQ:∀l' c',l'+2≤l→c≤c'→Q () l' c'):Liv (qIndexed r) Q l c:=by
 unfold qIndexed
 refine Liv.bind (he.use hl (by omega) fun l1 c1 h1 h2=>Liv.bind (liv_put (by simp[tw];omega) ?_))
 refine Liv.bind (he.use (by omega) (by simp[tw];omega) fun l2 c2 h3 h4=>liv_put (by simp[tw]at h4 ⊢;omega) (hQ _ _ (by omega) (by simp[tw]at h4 ⊢;omega)))
theorem liv_pair (he:Meth r.expr L) {l c:Nat} {w:Bytes} {Q:Unit→Nat→Nat→Prop} (hl:l≤L) (hc:200+w.length≤c) (hQ:∀l' c',l'+2≤l→c≤c'+w.length→Q () l' c'):Liv (qPair r w) Q l c:=by
 unfold qPair
 refine Liv.bind (liv_put (by simp[tw];omega) ?_)
 refine Liv.bind (he.use hl (by simp[tw];omega) fun l1 c1 h1 h2=>Liv.bind (liv_put (by simp[tw]at h2 ⊢;omega) ?_))
 refine Liv.bind (he.use (by omega) (by simp[tw]at h2 ⊢;omega) fun l2 c2 h3 h4=>liv_put (by simp[tw]at h2 h4 ⊢;omega) (hQ _ _ (by omega) (by simp[tw]at h2 h4 ⊢;omega)))
theorem liv_args (he:Meth r.expr L):∀(n l c:Nat) (Q:Unit→Nat→Nat→Prop),l≤L→150≤c→(∀l' c',l'≤l→c≤c'→Q () l' c')→Liv (argsP r n) Q l c
 | 0,l,c,Q,_,_,hQ=>Liv.pure (hQ _ _ (Nat.le_refl _) (Nat.le_refl _))
 | n+1,l,c,Q,hl,hc,hQ=>by
  unfold argsP
  refine Liv.bind (liv_put (by simp[tw];omega) ?_)
  exact Liv.bind (he.use hl (by simp[tw];omega) fun l' c' h1 h2=>liv_args he n l' c' Q (by omega) (by simp[tw]at h2;omega) (fun l'' c'' g1 g2=>hQ _ _ (by omega) (by simp[tw]at h2;omega)))
theorem liv_params:∀(n l c:Nat) (Q:Unit→Nat→Nat→Prop),150≤c→(∀l' c',l'≤l→c≤c'→Q () l' c')→Liv (qParams n) Q l c
 | 0,l,c,Q,_,hQ=>Liv.pure (hQ _ _ (Nat.le_refl _) (Nat.le_refl _))
 | n+1,l,c,Q,hc,hQ=>by
  unfold qParams
  refine Liv.bind (liv_put (by simp[tw];omega) ?_)
  refine Liv.bind (liv_named fun m hm=>?_)
  refine Liv.bind (liv_put (by simp[tw,ncost];omega) ?_)
  exact liv_params n _ _ Q (by simp[tw,ncost];omega) (fun l'' c'' g1 g2=>hQ _ _ (by omega) (by simp[tw,ncost]at g2;omega))
theorem quote1_len (c:UInt8):(quote1 c).length≤4:=by
 unfold quote1
 repeat (split;· simp)
 simp
theorem quote_len (s:Bytes):(quote s).length≤4*s.length+2:=by
 have:∀s:Bytes,(s.flatMap quote1).length≤4*s.length:=by
  intro s
  induction s with
  | nil=>simp
  | cons c s ih=>have:=quote1_len c;rw[List.flatMap_cons,List.length_append,List.length_cons];omega
 have:=this s
 simp only[quote,List.length_cons,List.length_append,List.length_nil]
 omega
theorem block_live (hs:Meth r.statement L):Meth (qBlock r) (L+1):=by
 intro l hl
 unfold qBlock
 refine Liv.bind (liv_kind fun k=>Liv.bind (liv_fit fun _=>Liv.bind (liv_put (by simp[tw]) (Liv.bind (liv_next fun n h1=>?_)))))
 refine Liv.bind (liv_rep hs _ _ _ _ (by omega) (by simp[tw,ncost];omega) fun l' c' g1 g2=>liv_put (by simp[tw,ncost]at g2 ⊢;omega) ⟨by omega,by simp[tw,ncost]at g2 ⊢;omega⟩)
theorem choice_live (he:Meth r.expr L) (hb:Meth r.block L) (hc:Meth r.choice L):Meth (qChoice r) (L+1):=by
 intro l hl
 unfold qChoice
 refine Liv.bind (liv_next fun n h1=>Liv.bind (liv_fit fun _=>Liv.bind (liv_put (by simp[tw,ncost];omega) ?_)))
 refine Liv.bind (he.use (by omega) (by simp[tw,ncost];omega) fun l1 c1 g1 g2=>?_)
 have g2':400≤c1:=by simp[tw,ncost]at g2;omega
 refine Liv.bind (hb.use (by omega) (by omega) fun l2 c2 k1 k2=>?_)
 refine Liv.ite (fun _=>Liv.pure ⟨by omega,by omega⟩) (fun _=>?_)
 refine Liv.bind (liv_put (by simp[tw];omega) ?_)
 refine Liv.bind (liv_kind fun k=>Liv.ite (fun _=>?_) (fun _=>?_))
 ·exact hc.use (by omega) (by simp[tw];omega) fun l3 c3 j1 j2=>⟨by omega,by simp[tw]at j2;omega⟩
 ·exact hb.use (by omega) (by simp[tw];omega) fun l3 c3 j1 j2=>⟨by omega,by simp[tw]at j2;omega⟩
theorem loop_live (he:Meth r.expr L) (hb:Meth r.block L):Meth (qLoop r) (L+1):=by
 intro l hl
 unfold qLoop
 refine Liv.bind (liv_kind fun k=>Liv.bind (liv_next fun n h1=>?_))
 have fin:∀(l0 c0:Nat),l0+1≤l→300≤c0→Liv (do r.expr;r.block) (fun _ l' c'=>l'+1≤l∧150≤c') l0 c0:=fun l0 c0 h2 h3 =>
  Liv.bind (he.use (by omega) (by omega) fun l1 c1 g1 g2=>hb.use (by omega) (by omega) fun l2 c2 k1 k2=>⟨by omega,by omega⟩)
 have fin2:∀(l0 c0:Nat),l0+1≤l→n.text.length+400≤c0→Liv (do let s ←nameP n.text;put [[102,111,114],s,[105,110]];r.expr;put [[46,46]];r.expr;r.block) (fun _ l' c'=>l'+1≤l∧150≤c') l0 c0:=fun l0 c0 h2 h3=>by
  refine Liv.bind (liv_name (Liv.bind (liv_put (by simp[tw];omega) ?_)))
  refine Liv.bind (he.use (by omega) (by simp[tw];omega) fun l1 c1 g1 g2=>?_)
  refine Liv.bind (liv_put (by simp[tw]at g2 ⊢;omega) ?_)
  exact fin _ _ (by omega) (by simp[tw]at g2 ⊢;omega)
 refine Liv.ite (fun _=>?_) (fun _=>?_)
 ·refine Liv.bind (liv_fit fun _=>?_)
  refine Liv.ite (fun _=>?_) (fun _=>?_)
  ·refine Liv.bind (liv_name (Liv.bind (liv_put (by simp[tw,ncost];omega) ?_)))
   exact Liv.bind (liv_put (by simp[tw,ncost];omega) (fin _ _ (by omega) (by simp[tw,ncost];omega)))
  ·exact Liv.bind (liv_put (by simp[tw,ncost];omega) (fin _ _ (by omega) (by simp[tw,ncost];omega)))
 ·refine Liv.bind (liv_fit fun _=>?_)
  refine Liv.ite (fun _=>?_) (fun _=>?_)
  ·refine Liv.bind (liv_named fun m hm=>Liv.bind (liv_put (by simp[tw,ncost];omega) ?_))
   exact fin2 _ _ (by omega) (by simp[tw,ncost];omega)
  ·exact fin2 _ _ (by omega) (by simp[ncost];omega)
theorem statement_live (he:Meth r.expr L) (hc:Meth r.choice (L+1)) (hl:Meth r.loop (L+1)):Meth (qStatement r) (L+1):=by
 intro l hll
 have fin:∀(l0 c0:Nat),l0+1≤l→300≤c0→Liv (do r.expr;put [[59]]) (fun _ l' c'=>l'+1≤l∧150≤c') l0 c0:=fun l0 c0 h2 h3 =>
  Liv.bind (he.use (by omega) (by omega) fun l1 c1 g1 g2=>liv_put (by simp[tw];omega) ⟨by omega,by simp[tw];omega⟩)
 have last:∀(l0 c0:Nat),l0+1≤l→300≤c0→Liv (put [[59]]) (fun _ l' c'=>l'+1≤l∧150≤c') l0 c0:=fun l0 c0 h2 h3 =>
  liv_put (by simp[tw];omega) ⟨by omega,by simp[tw];omega⟩
 unfold qStatement
 refine Liv.bind (liv_kind fun k=>?_)
 refine Liv.ite (fun _=>?_) (fun _=>?_)
 ·refine Liv.bind (liv_named fun n h1=>Liv.bind (liv_put (by simp[tw,ncost];omega) ?_))
  exact fin _ _ (by omega) (by simp[tw,ncost];omega)
 refine Liv.ite (fun _=>?_) (fun _=>?_)
 ·refine Liv.bind (liv_named fun n h1=>Liv.bind (liv_put (by simp[tw,ncost];omega) ?_))
  exact fin _ _ (by omega) (by simp[tw,ncost];omega)
 refine Liv.ite (fun _=>?_) (fun _=>?_)
 ·refine Liv.bind (liv_bare fun n h1=>Liv.bind (liv_indexed he (by omega) (by simp only[ncost];omega) fun l1 c1 g1 g2=>?_))
  have g3:400≤c1:=by have:=ncost_ge n;omega
  clear g2
  refine Liv.bind (liv_put (by simp[tw];omega) ?_)
  exact fin _ _ (by omega) (by simp[tw];omega)
 refine Liv.ite (fun _=>hc.use hll (by omega) fun l1 c1 g1 g2=>⟨g1,by omega⟩) (fun _=>?_)
 refine Liv.ite (fun _=>hl.use hll (by omega) fun l1 c1 g1 g2=>⟨g1,by omega⟩) (fun _=>?_)
 refine Liv.ite (fun _=>?_) (fun _=>?_)
 ·refine Liv.bind (liv_next fun n h1=>Liv.bind (liv_fit fun _=>Liv.bind (liv_put (by split<;>simp[tw,ncost]<;>omega) ?_)))
  have hcr:∀w:Bytes,w=(if (k==14)=true then[99,111,110,116,105,110,117,101] else[98,114,101,97,107])→tw [w]≤24:=fun w e=>by subst e;split<;>simp[tw]
  have hcr:=hcr _ rfl
  refine Liv.ite (fun _=>?_) (fun _=>?_)
  ·refine Liv.bind (liv_name (Liv.bind (liv_put (by simp only[tw_cons,tw_nil,ncost]at hcr ⊢;omega) ?_)))
   exact last _ _ (by omega) (by simp only[tw_cons,tw_nil,ncost]at hcr ⊢;omega)
  ·exact last _ _ (by omega) (by simp only[tw_cons,tw_nil,ncost]at hcr ⊢;omega)
 refine Liv.ite (fun _=>?_) (fun _=>?_)
 ·refine Liv.bind (liv_next fun n h1=>Liv.bind (liv_fit fun _=>Liv.bind (liv_put (by simp[tw,ncost];omega) ?_)))
  refine Liv.ite (fun _=>?_) (fun _=>?_)
  ·exact Liv.bind (he.use (by omega) (by simp[tw,ncost];omega) fun l1 c1 g1 g2=>last _ _ (by omega) (by simp[tw,ncost]at g2;omega))
  ·exact last _ _ (by omega) (by simp[tw,ncost];omega)
 refine Liv.ite (fun _=>?_) (fun _=>?_)
 ·refine Liv.bind (liv_bare fun n h1=>Liv.bind (liv_put (by simp[tw,ncost];omega) ?_))
  exact fin _ _ (by omega) (by simp[tw,ncost];omega)
 ·refine Liv.bind (liv_bare fun n h1=>?_)
  exact fin _ _ (by omega) (by simp[ncost];omega)
theorem expr_live (he:Meth r.expr L):Meth (qExpr r) (L+1):=by
 intro l hll
 have last:∀(w:Bytes) (l0 c0:Nat),l0+1≤l→w.length+200≤c0→Liv (put [w]) (fun _ l' c'=>l'+1≤l∧150≤c') l0 c0:=fun w l0 c0 h2 h3 =>
  liv_put (by simp[tw];omega) ⟨by omega,by simp[tw];omega⟩
 unfold qExpr
 refine Liv.bind (liv_kind fun k=>?_)
 refine Liv.ite (fun _=>?_) (fun _=>?_)
 ·have hw:∀w:Bytes,w=(if (k==19)=true then[97,110,100] else[111,114])→w.length≤3:=fun w e=>by subst e;split<;>simp
  have hw:=hw _ rfl
  exact Liv.bind (liv_bare fun n h1=>liv_pair he (by omega) (by simp only[ncost];omega) fun l1 c1 g1 g2=>⟨by omega,by simp only[ncost]at g2;omega⟩)
 refine Liv.ite (fun _=>?_) (fun _=>?_)
 ·refine Liv.bind (liv_bare fun n h1=>Liv.bind (liv_put (by simp[tw,ncost];omega) ?_))
  exact Liv.bind (he.use (by omega) (by simp[tw,ncost];omega) fun l1 c1 g1 g2=>last _ _ _ (by omega) (by simp[tw,ncost]at g2 ⊢;omega))
 refine Liv.ite (fun _=>?_) (fun _=>?_)
 ·exact Liv.bind (liv_next fun n h1=>Liv.bind (liv_fit fun _=>liv_pair he (by omega) (by simp only[ncost];omega) fun l1 c1 g1 g2=>⟨by omega,by simp only[ncost]at g2;omega⟩))
 refine Liv.ite (fun _=>?_) (fun _=>?_)
 ·refine Liv.bind (liv_next fun n h1=>Liv.bind (liv_fit fun _=>Liv.bind (liv_put (by simp[tw,ncost];omega) ?_)))
  exact Liv.bind (he.use (by omega) (by simp[tw,ncost];omega) fun l1 c1 g1 g2=>last _ _ _ (by omega) (by simp[tw,ncost]at g2 ⊢;omega))
 refine Liv.ite (fun _=>?_) (fun _=>?_)
 ·refine Liv.bind (liv_next fun n h1=>Liv.bind (liv_name (Liv.bind (liv_put (by simp[tw,ncost];omega) ?_))))
  have hc:400≤100+ncost n-tw [n.text,[40]]:=by simp[tw,ncost];omega
  generalize 100+ncost n-tw [n.text,[40]]=c0 at hc
  refine Liv.bind ?_
  split
  ·exact Liv.pure (last _ _ _ (by omega) (by simp;omega))
  ·exact Liv.bind (he.use (by omega) (by omega) fun l1 c1 g1 g2=>liv_args he _ _ _ _ (by omega) (by omega) fun l2 c2 k1 k2=>last _ _ _ (by omega) (by simp;omega))
 refine Liv.ite (fun _=>?_) (fun _=>?_)
 ·exact Liv.bind (liv_bare fun n h1=>liv_indexed he (by omega) (by simp only[ncost];omega) fun l1 c1 g1 g2=>⟨by omega,by simp only[ncost]at g2;omega⟩)
 refine Liv.ite (fun _=>?_) (fun _=>?_)
 ·exact Liv.bind (liv_named fun n h1=>last _ _ _ (by omega) (by simp only[ncost];omega))
 refine Liv.ite (fun _=>?_) (fun _=>?_)
 ·exact Liv.bind (liv_next fun n h1=>Liv.bind (liv_fit fun _=>last _ _ _ (by omega) (by simp only[ncost];omega)))
 refine Liv.ite (fun _=>?_) (fun _=>?_)
 ·exact Liv.bind (liv_next fun n h1=>Liv.bind (liv_fit fun _=>last _ _ _ (by omega) (by simp only[ncost];omega)))
 refine Liv.ite (fun _=>?_) (fun _=>?_)
 ·exact Liv.bind (liv_next fun n h1=>Liv.bind (liv_fit fun _=>last _ _ _ (by omega) (by have:=quote_len n.text;simp only[ncost];omega)))
 refine Liv.ite (fun _=>?_) (fun _=>?_)
 ·exact Liv.bind (liv_bare fun n h1=>last _ _ _ (by omega) (by simp[ncost];omega))
 refine Liv.ite (fun _=>?_) (fun _=>?_)
 ·exact Liv.bind (liv_bare fun n h1=>last _ _ _ (by omega) (by simp[ncost];omega))
 ·exact Liv.bind (liv_bare fun n h1=>last _ _ _ (by omega) (by simp[ncost];omega))
end
theorem Meth.zero {m:Pr Unit} (h:∀toks,m ([],toks)=some none):Meth m 0:=by
 intro l hl s hs hc
 obtain⟨ns,toks⟩:=s
 obtain rfl:ns=[]:=List.eq_nil_of_length_eq_zero (by simp at hs;omega)
 rw[h]
 exact⟨by simp,fun a s' e=>by cases e⟩
theorem precs_live:∀n L,(2*L+1≤n→Meth (precs n).block L∧Meth (precs n).choice L∧Meth (precs n).loop L∧Meth (precs n).expr L)∧(2*L+2≤n→Meth (precs n).statement L)
 | 0,L=>⟨fun h=>by omega,fun h=>by omega⟩
 | n+1,L=>by
  refine⟨fun h=>?_,fun h=>?_⟩
  ·cases L with
   | zero=>exact⟨Meth.zero fun t=>rfl,Meth.zero fun t=>rfl,Meth.zero fun t=>rfl,Meth.zero fun t=>rfl⟩
   | succ L =>
    obtain⟨a,b,c,d⟩:=(precs_live n L).1 (by omega)
    have e:=(precs_live n L).2 (by omega)
    exact⟨block_live e,choice_live d a b,loop_live d a,expr_live d⟩
  ·cases L with
   | zero=>exact Meth.zero fun t=>rfl
   | succ L =>
    obtain⟨a,b,c,d⟩:=(precs_live n L).1 (by omega)
    obtain⟨_,b',c',_⟩:=(precs_live n (L+1)).1 (by omega)
    exact statement_live d b' c'
theorem function_live {r:PRec} {L:Nat} (hb:Meth r.block L):Meth (qFunction r) L:=by
 intro l hl
 unfold qFunction
 refine Liv.bind (liv_kind fun k=>Liv.bind (liv_fit fun _=>Liv.bind (liv_next fun n h1=>Liv.bind (liv_fit fun _=>Liv.bind (liv_name (Liv.bind (liv_put (by simp[tw,ncost];omega) ?_)))))))
 have hc:400≤100+ncost n-tw [[102,110],n.text,[40]]:=by simp[tw,ncost];omega
 generalize 100+ncost n-tw [[102,110],n.text,[40]]=c0 at hc
 refine Liv.bind ?_
 have fin:∀(l0 c0:Nat),l0+1≤l→300≤c0→Liv (do put [[41]];r.block) (fun _ l' c'=>l'+1≤l∧150≤c') l0 c0:=fun l0 c0 h2 h3 =>
  Liv.bind (liv_put (by simp[tw];omega) (hb.use (by omega) (by simp[tw];omega) fun l1 c1 g1 g2=>⟨by omega,by simp[tw]at g2;omega⟩))
 split
 ·exact Liv.pure (fin _ _ (by omega) (by omega))
 ·refine Liv.bind (liv_named fun m hm=>Liv.bind (liv_put (by simp[tw,ncost];omega) ?_))
  exact liv_params _ _ _ _ (by simp[tw,ncost];omega) fun l' c' k1 k2=>fin _ _ (by omega) (by simp only[tw_cons,tw_nil,ncost,List.length_cons,List.length_nil]at k2;omega)
theorem top_live {r:PRec} {L:Nat} (hb:Meth r.block L):Meth (qTop r) L:=by
 intro l hl
 unfold qTop
 refine Liv.bind (liv_kind fun k=>Liv.ite (fun _=>?_) (fun _=>function_live hb l hl))
 exact Liv.bind (liv_named fun n h1=>liv_put (by simp[tw,ncost];omega) ⟨by omega,by simp[tw,ncost];omega⟩)
def pfuel (l:List Node):Nat:=2*l.length+1
theorem program_live (l:List Node) (n:Nat) (hn:pfuel l≤n) (hc:cost l≤1099511627000):qProgram (precs n) (l,[])≠none:=by
 have hb:=((precs_live n l.length).1 hn).1
 have ht:=top_live hb
 have:Liv (qProgram (precs n)) (fun _ _ _=>True) l.length 100:=by
  unfold qProgram
  exact Liv.bind (liv_kind fun k=>Liv.bind (liv_fit fun _=>Liv.bind (liv_next fun n h1=>liv_rep ht _ _ _ _ (by omega) (by simp only[ncost];omega) fun _ _ _ _=>trivial)))
 exact(this (l,[]) (Nat.le_refl _) (by simp[phi,tw,wlim];omega)).1
structure NodeOk (n:Node):Prop where
 text:n.text.length≤140737488351232
 kids:n.kids≤9223372036854775807
 intL : -9223372036854775808≤n.int
 intH:n.int≤9223372036854775807
 bitsL:0≤n.bits
 bitsH:n.bits<18446744073709551616
def print (l:List Node):Option Bytes:=(printWith (pfuel l) l).getD none
theorem print_eq (l:List Node) (hc:cost l≤1099511627000):printWith (pfuel l) l=some (print l):=by
 have:=program_live l (pfuel l) (Nat.le_refl _) hc
 unfold print
 cases h:printWith (pfuel l) l with
 | some r=>rfl
 | none =>
  unfold printWith at h
  split at h
  ·contradiction
  ·cases h
  ·split at h<;>cases h
def Con {α:Type} (k:Nat) (p:P α):Prop:=∀ts a ts',p ts=some (.ok (a,ts'))→ts'.length+k≤ts.length
def Live {α:Type} (L:Nat) (p:P α):Prop:=∀ts:TS,ts.length≤L→p ts≠none
theorem bind_eq {α β:Type} (x:P α) (f:α→P β) (ts:TS):(x >>= f) ts=P.bind x f ts:=rfl
theorem pure_eq {α:Type} (a:α) (ts:TS):(pure a:P α) ts=some (.ok (a,ts)):=rfl
theorem bind_ok {α β:Type} {x:P α} {f:α→P β} {ts:TS} {b:β} {ts':TS} (h:(x >>= f) ts=some (.ok (b,ts'))) :
  ∃a t1,x ts=some (.ok (a,t1))∧f a t1=some (.ok (b,ts')):=by
 rw[bind_eq]at h
 unfold P.bind at h
 split at h
 ·cases h
 ·cases h
 ·rename_i a t1 he;exact⟨a,t1,he,h⟩
theorem Con.bind {α β:Type} {j k:Nat} {x:P α} {f:α→P β} (hx:Con j x) (hf:∀a,Con k (f a)):Con (j+k) (x >>= f):=by
 intro ts b ts' h
 obtain⟨a,t1,h1,h2⟩:=bind_ok h
 have:=hx _ _ _ h1
 have:=hf a _ _ _ h2
 omega
theorem Con.pure {α:Type} (a:α):Con 0 (pure a:P α):=by
 intro ts b ts' h
 rw[pure_eq]at h
 cases h;omega
theorem Con.mono {α:Type} {j k:Nat} {x:P α} (h:Con j x) (hk:k≤j):Con k x:=fun ts a ts' e=>by have:=h ts a ts' e;omega
theorem Con.fail {α:Type} (k:Nat) (f:Flt):Con k (P.fail f:P α):=fun ts a ts' e=>by cases e
theorem Con.out {α:Type} (k:Nat):Con k (P.out:P α):=fun ts a ts' e=>by cases e
theorem Con.ite {α:Type} {k:Nat} {c:Prop} [Decidable c] {x y:P α} (hx:Con k x) (hy:Con k y):Con k (if c then x else y):=by
 split<;>assumption
theorem Live.bind {α β:Type} {L k:Nat} {x:P α} {f:α→P β} (hx:Live L x) (hc:Con k x) (hf:∀a,Live (L-k) (f a)):Live L (x >>= f):=by
 intro ts hl
 rw[bind_eq]
 unfold P.bind
 split
 ·rename_i he;exact absurd he (hx ts hl)
 ·simp
 ·rename_i a t1 he
  have:=hc _ _ _ he
  exact hf a t1 (by omega)
theorem Live.pure {α:Type} (L:Nat) (a:α):Live L (pure a:P α):=fun ts _=>by rw[pure_eq];simp
theorem Live.fail {α:Type} (L:Nat) (f:Flt):Live L (P.fail f:P α):=fun ts _=>by simp[P.fail]
theorem Live.mono {α:Type} {L L':Nat} {x:P α} (h:Live L x) (hl:L'≤L):Live L' x:=fun ts ht=>h ts (by omega)
theorem Live.ite {α:Type} {L:Nat} {c:Prop} [Decidable c] {x y:P α} (hx:Live L x) (hy:Live L y):Live L (if c then x else y):=by
 split<;>assumption
section
variable (F:Flt)
theorem look_con:Con 0 (look F):=by
 intro ts a ts' h
 unfold look at h
 split at h<;>cases h;omega
theorem look_live (L:Nat):Live L (look F):=by
 intro ts _
 unfold look
 split<;>simp
theorem look1_con:Con 0 (look1 F):=by
 intro ts a ts' h
 unfold look1 at h
 split at h<;>cases h;omega
theorem look1_live (L:Nat):Live L (look1 F):=by
 intro ts _
 unfold look1
 split<;>simp
theorem adv_con:Con 0 adv:=by
 intro ts a ts' h
 unfold adv at h
 cases h;simp
theorem adv_live (L:Nat):Live L adv:=by intro ts _;simp[adv]
theorem wrong_con {α:Type} (k:Nat):Con k (wrong F:P α):=by
 have:=Con.bind (look_con F) (fun t=>Con.fail (α:=α) k ⟨70,t.at'⟩)
 unfold wrong;simpa using this
theorem wrong_live {α:Type} (L:Nat):Live L (wrong F:P α):=Live.bind (look_live F L) (look_con F) (fun _=>Live.fail _ _)
theorem sees_con (k:Int) (l:List Bytes):Con 0 (sees F k l):=Con.bind (look_con F) (fun _=>Con.pure _)
theorem sees_live (L:Nat) (k:Int) (l:List Bytes):Live L (sees F k l):=Live.bind (look_live F L) (look_con F) (fun _=>Live.pure _ _)
theorem skip_con (k:Int) (x:Bytes):Con 0 (skip F k x) :=
 Con.bind (sees_con F k [x]) (fun _=>Con.ite (Con.bind adv_con fun _=>Con.pure _) (Con.pure _))
theorem skip_live (L:Nat) (k:Int) (x:Bytes):Live L (skip F k x) :=
 Live.bind (sees_live F L k [x]) (sees_con F k [x]) (fun _=>Live.ite (Live.bind (adv_live _) adv_con fun _=>Live.pure _ _) (Live.pure _ _))
theorem look_some {ts:TS} {t:Tok} {ts':TS} (h:look F ts=some (.ok (t,ts'))):∃o r,ts=(t,o)::r∧ts'=ts:=by
 unfold look lookAt at h
 cases ts with
 | nil=>simp at h
 | cons p r =>
  obtain⟨t',o⟩:=p
  simp only at h
  split at h<;>cases h
  rename_i he
  split at he<;>cases he
  exact⟨o,r,rfl,rfl⟩
theorem skip_true {k:Int} {x:Bytes} {ts ts':TS} (h:skip F k x ts=some (.ok (true,ts'))):∃p,ts=p::ts':=by
 obtain⟨b,t1,h1,h2⟩:=bind_ok h
 obtain⟨t,t2,h3,h4⟩:=bind_ok h1
 obtain⟨o,r,rfl,rfl⟩:=look_some F h3
 rw[pure_eq]at h4
 cases h4
 split at h2
 ·obtain⟨_,t3,h5,h6⟩:=bind_ok h2
  cases h5
  cases h6
  exact⟨(t,o),rfl⟩
 ·cases h2
theorem take_con (k:Int):Con 1 (take F k):=by
 intro ts a ts' hh
 obtain⟨t,t1,h1,h2⟩:=bind_ok hh
 obtain⟨o,r,rfl,rfl⟩:=look_some F h1
 split at h2
 ·obtain⟨_,t3,h5,h6⟩:=bind_ok h2
  cases h5
  cases h6
  simp
 ·exact wrong_con F 1 _ _ _ h2
theorem take_live (L:Nat) (k:Int):Live L (take F k) :=
 Live.bind (look_live F L) (look_con F) (fun _=>Live.ite (Live.bind (adv_live _) adv_con fun _=>Live.pure _ _) (wrong_live F _))
theorem must_con (k:Int) (x:Bytes):Con 1 (must F k x):=by
 intro ts a ts' hh
 obtain⟨t,t1,h1,h2⟩:=bind_ok hh
 obtain⟨o,r,rfl,rfl⟩:=look_some F h1
 obtain⟨b,t2,h3,h4⟩:=bind_ok h2
 split at h4
 ·rename_i hb
  subst hb
  obtain⟨p,hp⟩:=skip_true F h3
  cases h4
  rw[hp];simp
 ·have:=wrong_con F 1 _ _ _ h4
  have:=skip_con F k x _ _ _ h3
  omega
theorem must_live (L:Nat) (k:Int) (x:Bytes):Live L (must F k x) :=
 Live.bind (look_live F L) (look_con F) (fun _=>Live.bind (skip_live F _ k x) (skip_con F k x) (fun _=>Live.ite (Live.pure _ _) (wrong_live F _)))
end
def ConN {α:Type} (k:Nat) (p:P α):Prop:=∀ts a ts',ts≠[]→p ts=some (.ok (a,ts'))→ts'.length+k≤ts.length
theorem Con.n {α:Type} {k:Nat} {p:P α} (h:Con k p):ConN k p:=fun ts a ts' _ e=>h ts a ts' e
theorem ConN.bind {α β:Type} {j k:Nat} {x:P α} {f:α→P β} (hx:ConN j x) (hf:∀a,Con k (f a)):ConN (j+k) (x >>= f):=by
 intro ts b ts' hn h
 obtain⟨a,t1,h1,h2⟩:=bind_ok h
 have:=hx _ _ _ hn h1
 have:=hf a _ _ _ h2
 omega
theorem ConN.ite {α:Type} {k:Nat} {c:Prop} [Decidable c] {x y:P α} (hx:ConN k x) (hy:ConN k y):ConN k (if c then x else y):=by
 split<;>assumption
theorem adv_conN:ConN 1 adv:=by
 intro ts a ts' hn h
 cases ts with
 | nil=>exact absurd rfl hn
 | cons p r=>cases h;simp
theorem Con.of_look {α:Type} {F:Flt} {k:Nat} {f:Tok→P α} (h:∀t,ConN k (f t)):Con k (look F >>= f):=by
 intro ts a ts' hh
 obtain⟨t,t1,h1,h2⟩:=bind_ok hh
 obtain⟨o,r,rfl,rfl⟩:=look_some F h1
 exact h t _ _ _ (by simp) h2
theorem ConN.of_look {α:Type} {F:Flt} {k:Nat} {f:Tok→P α} (h:∀t,ConN k (f t)):ConN k (look F >>= f):=(Con.of_look h).n
theorem Con.of_skip {α:Type} {F:Flt} {k:Nat} {q:Int} {x:Bytes} {A B:P α} (hA:Con k A) (hB:Con (k+1) B):Con (k+1) (skip F q x >>= fun b=>if b=true then A else B):=by
 intro ts a ts' hh
 obtain⟨b,t1,h1,h2⟩:=bind_ok hh
 cases b with
 | true =>
  obtain⟨p,rfl⟩:=skip_true F h1
  have:=hA _ _ _ (by simpa using h2)
  simp;omega
 | false =>
  have:=skip_con F q x _ _ _ h1
  have:=hB _ _ _ (by simpa using h2)
  omega
theorem Con.of_skip0 {α:Type} {F:Flt} {k:Nat} {q:Int} {x:Bytes} {A B:P α} (hA:Con k A) (hB:Con k B):Con k (skip F q x >>= fun b=>if b=true then A else B):=by
 have:=Con.bind (skip_con F q x) (fun b=>Con.ite (c:=b=true) hA hB)
 simpa using this
theorem Con.of_sees {α:Type} {F:Flt} {k:Nat} {q:Int} {l:List Bytes} {A B:P α} (hA:Con k A) (hB:Con k B):Con k (sees F q l >>= fun b=>if b=true then A else B):=by
 have:=Con.bind (sees_con F q l) (fun b=>Con.ite (c:=b=true) hA hB)
 simpa using this
structure ConR (r:Rec):Prop where
 block:Con 1 r.block
 statement:Con 1 r.statement
 choice:Con 1 r.choice
 loop:∀l,Con 1 (r.loop l)
 expr:Con 1 r.expr
 and':Con 1 r.and'
 not':Con 1 r.not'
 level:∀k,Con 1 (r.level k)
 unary:Con 1 r.unary
 primary:Con 1 r.primary
section
variable {F:Flt} {r:Rec} (h:ConR r)
include h
theorem blockL_con:∀n ks,Con 1 (blockL F r n ks)
 | 0,_=>Con.out 1
 | n+1,ks=>Con.of_skip (k:=0) (Con.pure _) (Con.mono (Con.bind (h.statement) (fun _=>blockL_con n _)) (by omega))
theorem pBlock_con (n:Nat):Con 1 (pBlock F r n) :=
 Con.mono (Con.bind (must_con F 3 [123]) (fun _=>Con.bind (blockL_con h n []) (fun _=>Con.pure _))) (by omega)
theorem pEnd_con (t:Tree):Con 1 (pEnd F t):=Con.mono (Con.bind (must_con F 3 [59]) (fun _=>Con.pure _)) (by omega)
theorem pPlain_con:Con 1 (pPlain F r) :=
 Con.mono (j:=1+0) (Con.bind h.expr (fun e=>Con.ite (Con.of_skip0 (Con.mono (j:=1+0) (Con.bind h.expr (fun v=>Con.ite ((pEnd_con h _).mono (by omega)) ((pEnd_con h _).mono (by omega)))) (by omega)) ((pEnd_con h _).mono (by omega))) ((pEnd_con h _).mono (by omega)))) (by omega)
theorem pChoice_con:Con 1 (pChoice F r) :=
 Con.mono (j:=1+(0+(0+0))) (Con.bind (must_con F 2 [105,102]) (fun _=>Con.bind (h.expr.mono (by omega)) (fun _=>Con.bind (h.block.mono (by omega)) (fun _ =>
  Con.of_skip0 (Con.of_sees (Con.mono (Con.bind h.choice (fun _=>Con.pure _)) (by omega)) (Con.mono (Con.bind h.block (fun _=>Con.pure _)) (by omega))) (Con.pure _))))) (by omega)
theorem pLoop_con (l:Option Tok):Con 1 (pLoop F r l) :=
 Con.mono (j:=1+0) (Con.bind (take_con F 2) (fun t=>Con.ite
  (Con.mono (Con.bind h.expr (fun _=>Con.bind h.block (fun _=>Con.pure _))) (by omega))
  (Con.mono (Con.bind (take_con F 1) (fun _=>Con.bind (must_con F 2 [105,110]) (fun _=>Con.bind h.expr (fun _=>Con.bind (must_con F 3 [46,46]) (fun _=>Con.bind h.expr (fun _=>Con.bind h.block (fun _=>Con.pure _))))))) (by omega)))) (by omega)
theorem exprL_con:∀n e,Con 0 (exprL F r n e)
 | 0,_=>Con.out 0
 | n+1,e=>Con.of_sees (Con.mono (Con.bind (must_con F 2 [111,114]) (fun _=>Con.bind h.and' (fun _=>exprL_con n _))) (by omega)) (Con.pure _)
theorem pExpr_con (n:Nat):Con 1 (pExpr F r n):=Con.mono (Con.bind h.and' (fun _=>exprL_con h n _)) (by omega)
theorem andL_con:∀n e,Con 0 (andL F r n e)
 | 0,_=>Con.out 0
 | n+1,e=>Con.of_sees (Con.mono (Con.bind (must_con F 2 [97,110,100]) (fun _=>Con.bind h.not' (fun _=>andL_con n _))) (by omega)) (Con.pure _)
theorem pAnd_con (n:Nat):Con 1 (pAnd F r n):=Con.mono (Con.bind h.not' (fun _=>andL_con h n _)) (by omega)
theorem pTwo_con (e:Tree) (k:Nat):Con 1 (pTwo F r e k):=Con.mono (Con.bind (take_con F 3) (fun _=>Con.bind (h.level k) (fun _=>Con.pure _))) (by omega)
theorem pNot_con:Con 1 (pNot F r) :=
 Con.of_sees (Con.mono (Con.bind (must_con F 2 [110,111,116]) (fun _=>Con.bind h.not' (fun _=>Con.pure _))) (by omega))
  (Con.mono (j:=1+0) (Con.bind (h.level 0) (fun e=>Con.of_sees ((pTwo_con h e 0).mono (by omega)) (Con.pure _))) (by omega))
theorem levelL_con (k:Nat) (l:List Bytes):∀n e,Con 0 (levelL F r k l n e)
 | 0,_=>Con.out 0
 | n+1,e=>Con.of_sees (Con.mono (Con.bind (pTwo_con h e (k+1)) (fun _=>levelL_con k l n _)) (by omega)) (Con.pure _)
theorem pLevel_con (n k:Nat):Con 1 (pLevel F r n k):=by
 unfold pLevel
 split
 ·exact h.unary
 ·exact Con.mono (Con.bind (h.level (k+1)) (fun _=>levelL_con h k _ n _)) (by omega)
theorem unaryL_con:∀n e,Con 0 (unaryL F r n e)
 | 0,_=>Con.out 0
 | n+1,e=>Con.of_sees (Con.mono (Con.bind (must_con F 3 [91]) (fun _=>Con.bind h.expr (fun _=>Con.bind (must_con F 3 [93]) (fun _=>unaryL_con n _)))) (by omega)) (Con.pure _)
theorem pUnary_con (n:Nat):Con 1 (pUnary F r n) :=
 Con.of_sees (Con.mono (Con.bind (take_con F 3) (fun _=>Con.bind h.unary (fun _=>Con.pure _))) (by omega))
  (Con.mono (j:=1+0) (Con.bind h.primary (fun e=>unaryL_con h n e)) (by omega))
theorem callL_con:∀n ks,Con 1 (callL F r n ks)
 | 0,_=>Con.out 1
 | n+1,ks=>Con.mono (j:=1+0) (Con.bind h.expr (fun _=>Con.of_skip0 ((callL_con n _).mono (by omega)) (Con.mono (Con.bind (must_con F 3 [41]) (fun _=>Con.pure _)) (by omega)))) (by omega)
theorem pPrimary_con (n:Nat):Con 1 (pPrimary F r n):=by
 refine Con.of_look (fun t=>?_)
 refine ConN.ite (ConN.bind (k:=0) adv_conN (fun _=>Con.pure _)) ?_
 refine ConN.ite (ConN.bind (k:=0) adv_conN (fun _=>Con.pure _)) ?_
 refine ConN.ite (ConN.bind (k:=0) adv_conN (fun _=>Con.pure _)) ?_
 refine ConN.ite ?_ ?_
 ·split
  ·exact ConN.bind (k:=0) adv_conN (fun _=>Con.pure _)
  ·exact(wrong_con F 1).n
 refine ConN.ite (ConN.bind (k:=0) adv_conN (fun _=>?_)) ?_
 ·exact Con.of_skip0 (Con.of_skip0 (Con.pure _) (Con.mono (Con.bind (callL_con h n []) (fun _=>Con.pure _)) (by omega))) (Con.pure _)
 refine ConN.ite (Con.n (Con.of_skip (k:=0) (Con.mono (Con.bind h.expr (fun _=>Con.bind (must_con F 3 [41]) (fun _=>Con.pure _))) (by omega)) (wrong_con F 1))) (wrong_con F 1).n
theorem pStatement_con:Con 1 (pStatement F r):=by
 have hp:=(pPlain_con (F:=F) h).n
 have he:=fun t=>(pEnd_con (F:=F) h t).mono (show 0≤1 by omega)
 have inner:∀(t:Tok) (c:Bool),ConN 1 (if c=true then(do
   adv
   adv
   if ←sees F 2 [[119,104,105,108,101],[102,111,114]]then r.loop (some t)else wrong F)
  else if (t.kind==2)=true then
   if (t.text==[108,101,116])=true then(do
    adv
    let n ←take F 1
    let _ ←must F 3 [61]
    let e ←r.expr
    pEnd F (leaf 6 n.at' n.text [e]))
   else if (t.text==[105,102])=true then r.choice
   else if (t.text==[119,104,105,108,101]||t.text==[102,111,114])=true then r.loop none
   else if (t.text==[98,114,101,97,107]||t.text==[99,111,110,116,105,110,117,101])=true then(do
    adv
    let k:Int:=if t.text==[99,111,110,116,105,110,117,101]then 14 else 13
    let c ←look F
    if c.kind==1 then
     let l ←take F 1
     pEnd F (leaf k t.at' l.text [])
    else pEnd F (leaf k t.at' [] []))
   else if (t.text==[114,101,116,117,114,110])=true then(do
    adv
    if ←sees F 3 [[59]]then pEnd F (leaf 15 t.at' [] [])
    else
     let e ←r.expr
     pEnd F (leaf 15 t.at' [] [e]))
   else if (t.text==[111,117,116])=true then(do
    adv
    let e ←r.expr
    pEnd F (leaf 16 t.at' [] [e]))
   else pPlain F r
  else pPlain F r):=by
  intro t c
  refine ConN.ite ?_ (ConN.ite (ConN.ite ?_ (ConN.ite h.choice.n (ConN.ite (h.loop _).n (ConN.ite ?_ (ConN.ite ?_ (ConN.ite ?_ hp)))))) hp)
  ·exact ConN.bind (k:=0) adv_conN (fun _=>Con.mono (j:=0+0) (Con.bind adv_con (fun _=>Con.of_sees ((h.loop _).mono (by omega)) (wrong_con F 0))) (by omega))
  ·exact ConN.bind (k:=0) adv_conN (fun _=>Con.mono (Con.bind (take_con F 1) (fun _=>Con.bind (must_con F 3 [61]) (fun _=>Con.bind h.expr (fun _=>he _)))) (by omega))
  ·exact ConN.bind (k:=0) adv_conN (fun _=>Con.mono (j:=0+0) (Con.bind (look_con F) (fun _=>Con.ite (Con.mono (Con.bind (take_con F 1) (fun _=>he _)) (by omega)) (he _))) (by omega))
  ·exact ConN.bind (k:=0) adv_conN (fun _=>Con.of_sees (he _) (Con.mono (Con.bind h.expr (fun _=>he _)) (by omega)))
  ·exact ConN.bind (k:=0) adv_conN (fun _=>Con.mono (Con.bind h.expr (fun _=>he _)) (by omega))
 refine Con.of_look (fun t=>?_)
 intro ts a ts' hn hh
 obtain⟨c,t1,h1,h2⟩:=bind_ok hh
 have e1:t1=ts:=by
  split at h1
  ·obtain⟨x,t2,h3,h4⟩:=bind_ok h1
   unfold look1 at h3
   split at h3<;>cases h3
   cases h4;rfl
  ·cases h1;rfl
 subst e1
 exact inner t c _ _ _ hn h2
theorem step_con (n:Nat):ConR (step F r n) :=
 ⟨pBlock_con h n,pStatement_con h,pChoice_con h,pLoop_con h,pExpr_con h n,pAnd_con h n,pNot_con h,pLevel_con h n,pUnary_con h n,pPrimary_con h n⟩
end
theorem recs_con (F:Flt):∀n,ConR (recs F n)
 | 0=>⟨Con.out 1,Con.out 1,Con.out 1,fun _=>Con.out 1,Con.out 1,Con.out 1,Con.out 1,fun _=>Con.out 1,Con.out 1,Con.out 1⟩
 | n+1=>step_con (recs_con F n) n
theorem Live.seq {α β:Type} {L k:Nat} {x:P α} {f:α→P β} (hx:Live L x) (hc:Con k x) (hf:k≤L→∀a,Live (L-k) (f a)):Live L (x >>= f):=by
 intro ts hl
 rw[bind_eq]
 unfold P.bind
 split
 ·rename_i he;exact absurd he (hx ts hl)
 ·simp
 ·rename_i a t1 he
  have:=hc _ _ _ he
  exact hf (by omega) a t1 (by omega)
theorem Live.seq0 {α β:Type} {L:Nat} {x:P α} {f:α→P β} (hx:Live L x) (hc:Con 0 x) (hf:∀a,Live L (f a)):Live L (x >>= f) :=
 Live.seq hx hc (fun _ a=>hf a)
theorem Live.look_adv {α:Type} {F:Flt} {L:Nat} {f:Tok→P α} (h:∀t,1≤L→Live L (f t)):Live L (look F >>= f):=by
 intro ts hl
 rw[bind_eq]
 unfold P.bind
 split
 ·rename_i he;exact absurd he (look_live F L ts hl)
 ·simp
 ·rename_i t t1 he
  obtain⟨o,r,rfl,rfl⟩:=look_some F he
  exact h t (by simp at hl;omega) _ hl
theorem Live.adv {α:Type} {L:Nat} {f:Unit→P α} (hf:∀a,Live (L-1) (f a)):Live L (adv >>= f):=by
 intro ts hl
 exact hf () ts.tail (by simp;omega)
structure LiveR (r:Rec) (n:Nat):Prop where
 block:∀L,L*32+13+1≤n→Live L r.block
 statement:∀L,L*32+14+1≤n→Live L r.statement
 choice:∀L,L*32+13+1≤n→Live L r.choice
 loop:∀L l,L*32+13+1≤n→Live L (r.loop l)
 expr:∀L,L*32+12+1≤n→Live L r.expr
 and':∀L,L*32+11+1≤n→Live L r.and'
 not':∀L,L*32+10+1≤n→Live L r.not'
 level:∀L k,L*32+(3+(6-k))+1≤n→Live L (r.level k)
 unary:∀L,L*32+2+1≤n→Live L r.unary
 primary:∀L,L*32+1+1≤n→Live L r.primary
section
variable {F:Flt} {r:Rec} (h:ConR r)
include h
theorem blockL_live:∀n L ks,L<n→Live L r.statement→Live L (blockL F r n ks)
 | 0,L,_,hn,_=>by omega
 | n+1,L,ks,hn,hs=>Live.seq0 (skip_live F L 3 [125]) (skip_con F 3 [125]) (fun _=>Live.ite (Live.pure _ _)
   (Live.seq hs h.statement (fun hL _=>blockL_live n (L-1) _ (by omega) (hs.mono (by omega)))))
theorem exprL_live:∀n L e,L<n→(∀L',L'+1≤L→Live L' r.and')→Live L (exprL F r n e)
 | 0,L,_,hn,_=>by omega
 | n+1,L,e,hn,hs=>Live.seq0 (sees_live F L 2 _) (sees_con F 2 _) (fun _=>Live.ite
   (Live.seq (must_live F L 2 _) (must_con F 2 _) (fun hL _=>Live.seq (hs _ (by omega)) h.and' (fun hL' _=>exprL_live n _ _ (by omega) (fun L' hl=>hs L' (by omega))))) (Live.pure _ _))
theorem andL_live:∀n L e,L<n→(∀L',L'+1≤L→Live L' r.not')→Live L (andL F r n e)
 | 0,L,_,hn,_=>by omega
 | n+1,L,e,hn,hs=>Live.seq0 (sees_live F L 2 _) (sees_con F 2 _) (fun _=>Live.ite
   (Live.seq (must_live F L 2 _) (must_con F 2 _) (fun hL _=>Live.seq (hs _ (by omega)) h.not' (fun hL' _=>andL_live n _ _ (by omega) (fun L' hl=>hs L' (by omega))))) (Live.pure _ _))
theorem pTwo_live (L:Nat) (e:Tree) (k:Nat) (hs:∀L',L'+1≤L→Live L' (r.level k)):Live L (pTwo F r e k) :=
 Live.seq (take_live F L 3) (take_con F 3) (fun hL _=>Live.seq (hs _ (by omega)) (h.level k) (fun _ _=>Live.pure _ _))
theorem levelL_live (k:Nat) (l:List Bytes):∀n L e,L<n→(∀L',L'+1≤L→Live L' (r.level (k+1)))→Live L (levelL F r k l n e)
 | 0,L,_,hn,_=>by omega
 | n+1,L,e,hn,hs=>Live.seq0 (sees_live F L 3 _) (sees_con F 3 _) (fun _=>Live.ite
   (Live.seq (pTwo_live h L e (k+1) hs) (pTwo_con h e (k+1)) (fun hL _=>levelL_live k l n _ _ (by omega) (fun L' hl=>hs L' (by omega)))) (Live.pure _ _))
theorem unaryL_live:∀n L e,L<n→(∀L',L'+1≤L→Live L' r.expr)→Live L (unaryL F r n e)
 | 0,L,_,hn,_=>by omega
 | n+1,L,e,hn,hs=>Live.seq0 (sees_live F L 3 _) (sees_con F 3 _) (fun _=>Live.ite
   (Live.seq (must_live F L 3 _) (must_con F 3 _) (fun hL _=>Live.seq (hs _ (by omega)) h.expr (fun hL' _=>Live.seq (must_live F _ 3 _) (must_con F 3 _) (fun hL2 _=>unaryL_live n _ _ (by omega) (fun L' hl=>hs L' (by omega)))))) (Live.pure _ _))
theorem callL_live:∀n L ks,L<n→(∀L',L'≤L→Live L' r.expr)→Live L (callL F r n ks)
 | 0,L,_,hn,_=>by omega
 | n+1,L,ks,hn,hs=>Live.seq (hs L (Nat.le_refl _)) h.expr (fun hL _=>Live.seq0 (skip_live F _ 3 _) (skip_con F 3 _) (fun _=>Live.ite
   (callL_live n _ _ (by omega) (fun L' hl=>hs L' (by omega))) (Live.seq (must_live F _ 3 _) (must_con F 3 _) (fun _ _=>Live.pure _ _))))
variable {n:Nat} (H:LiveR r n)
include H
theorem pEnd_live (L:Nat) (t:Tree):Live L (pEnd F t):=Live.seq (must_live F L 3 _) (must_con F 3 _) (fun _ _=>Live.pure _ _)
theorem pPlain_live (L:Nat) (hn:L*32+13+1≤n+1):Live L (pPlain F r) :=
 Live.seq (H.expr L (by omega)) h.expr (fun hL e=>Live.ite (Live.seq0 (skip_live F _ 3 _) (skip_con F 3 _) (fun _=>Live.ite
  (Live.seq (H.expr _ (by omega)) h.expr (fun _ v=>Live.ite (pEnd_live h H _ _) (pEnd_live h H _ _))) (pEnd_live h H _ _))) (pEnd_live h H _ _))
theorem pStatement_live (L:Nat) (hn:L*32+14+1≤n+1):Live L (pStatement F r):=by
 refine Live.look_adv (fun t hL=>?_)
 have hp:Live L (pPlain F r):=pPlain_live h H L (by omega)
 have he:=fun L t=>pEnd_live (F:=F) h H L t
 refine Live.seq0 (Live.ite (Live.seq0 (look1_live F L) (look1_con F) (fun _=>Live.pure _ _)) (Live.pure _ _)) ?_ (fun c=>?_)
 ·exact Con.ite (Con.mono (Con.bind (look1_con F) (fun _=>Con.pure _)) (by omega)) (Con.pure _)
 refine Live.ite ?_ (Live.ite (Live.ite ?_ (Live.ite (H.choice L (by omega)) (Live.ite (H.loop L _ (by omega)) (Live.ite ?_ (Live.ite ?_ (Live.ite ?_ hp)))))) hp)
 ·exact Live.adv (fun _=>Live.adv (fun _=>Live.seq0 (sees_live F _ 2 _) (sees_con F 2 _) (fun _=>Live.ite (H.loop _ _ (by omega)) (wrong_live F _))))
 ·exact Live.adv (fun _=>Live.seq (take_live F _ 1) (take_con F 1) (fun _ _=>Live.seq (must_live F _ 3 _) (must_con F 3 _) (fun _ _=>Live.seq (H.expr _ (by omega)) h.expr (fun _ _=>he _ _))))
 ·exact Live.adv (fun _=>Live.seq0 (look_live F _) (look_con F) (fun _=>Live.ite (Live.seq (take_live F _ 1) (take_con F 1) (fun _ _=>he _ _)) (he _ _)))
 ·exact Live.adv (fun _=>Live.seq0 (sees_live F _ 3 _) (sees_con F 3 _) (fun _=>Live.ite (he _ _) (Live.seq (H.expr _ (by omega)) h.expr (fun _ _=>he _ _))))
 ·exact Live.adv (fun _=>Live.seq (H.expr _ (by omega)) h.expr (fun _ _=>he _ _))
theorem pPrimary_live (L:Nat) (hn:L*32+1+1≤n+1):Live L (pPrimary F r n):=by
 refine Live.look_adv (fun t hL=>?_)
 refine Live.ite (Live.adv (fun _=>Live.pure _ _)) (Live.ite (Live.adv (fun _=>Live.pure _ _)) (Live.ite (Live.adv (fun _=>Live.pure _ _)) (Live.ite ?_ (Live.ite ?_ (Live.ite ?_ (wrong_live F _))))))
 ·split
  ·exact Live.adv (fun _=>Live.pure _ _)
  ·exact wrong_live F _
 ·exact Live.adv (fun _=>Live.seq0 (skip_live F _ 3 _) (skip_con F 3 _) (fun _=>Live.ite (Live.seq0 (skip_live F _ 3 _) (skip_con F 3 _) (fun _=>Live.ite (Live.pure _ _)
   (Live.seq (callL_live h n _ _ (by omega) (fun L' hl=>H.expr L' (by omega))) (callL_con h n []) (fun _ _=>Live.pure _ _)))) (Live.pure _ _)))
 ·intro ts hl
  rw[bind_eq]
  unfold P.bind
  split
  ·rename_i he;exact absurd he (skip_live F L 3 _ ts hl)
  ·simp
  ·rename_i b t1 he
   cases b with
   | true =>
    obtain⟨p,rfl⟩:=skip_true F he
    have hl':t1.length≤L-1:=by simp at hl;omega
    simp only[if_true]
    exact(Live.seq (H.expr (L-1) (by omega)) h.expr (fun _ e=>Live.seq (must_live F _ 3 [41]) (must_con F 3 [41]) (fun _ _=>Live.pure _ e))) t1 hl'
   | false=>simpa using wrong_live F (α:=Tree) t1.length t1 (Nat.le_refl _)
theorem step_live:LiveR (step F r n) (n+1) where
 block L hn:=Live.seq (must_live F L 3 _) (must_con F 3 _) (fun hL _=>Live.seq (blockL_live h n _ _ (by omega) (H.statement _ (by omega))) (blockL_con h n []) (fun _ _=>Live.pure _ _))
 statement L hn:=pStatement_live h H L hn
 choice L hn:=Live.seq (must_live F L 2 _) (must_con F 2 _) (fun hL _=>Live.seq (H.expr _ (by omega)) h.expr (fun _ _=>Live.seq (H.block _ (by omega)) h.block (fun _ _ =>
  Live.seq0 (skip_live F _ 2 _) (skip_con F 2 _) (fun _=>Live.ite (Live.seq0 (sees_live F _ 2 _) (sees_con F 2 _) (fun _=>Live.ite (Live.seq (H.choice _ (by omega)) h.choice (fun _ _=>Live.pure _ _)) (Live.seq (H.block _ (by omega)) h.block (fun _ _=>Live.pure _ _)))) (Live.pure _ _)))))
 loop L l hn:=Live.seq (take_live F L 2) (take_con F 2) (fun hL _=>Live.ite (Live.seq (H.expr _ (by omega)) h.expr (fun _ _=>Live.seq (H.block _ (by omega)) h.block (fun _ _=>Live.pure _ _)))
  (Live.seq (take_live F _ 1) (take_con F 1) (fun _ _=>Live.seq (must_live F _ 2 _) (must_con F 2 _) (fun _ _=>Live.seq (H.expr _ (by omega)) h.expr (fun _ _=>Live.seq (must_live F _ 3 _) (must_con F 3 _) (fun _ _=>Live.seq (H.expr _ (by omega)) h.expr (fun _ _=>Live.seq (H.block _ (by omega)) h.block (fun _ _=>Live.pure _ _))))))))
 expr L hn:=Live.seq (H.and' L (by omega)) h.and' (fun hL _=>exprL_live h n _ _ (by omega) (fun L' hl=>H.and' L' (by omega)))
 and' L hn:=Live.seq (H.not' L (by omega)) h.not' (fun hL _=>andL_live h n _ _ (by omega) (fun L' hl=>H.not' L' (by omega)))
 not' L hn:=by
  refine Live.seq0 (sees_live F L 2 _) (sees_con F 2 _) (fun _=>Live.ite ?_ ?_)
  ·exact Live.seq (must_live F L 2 _) (must_con F 2 _) (fun hL _=>Live.seq (H.not' _ (by omega)) h.not' (fun _ _=>Live.pure _ _))
  ·exact Live.seq (H.level L 0 (by omega)) (h.level 0) (fun hL e=>Live.seq0 (sees_live F _ 3 _) (sees_con F 3 _) (fun _=>Live.ite (pTwo_live h _ e 0 (fun L' hl=>H.level L' 0 (by omega))) (Live.pure _ _)))
 level L k hn:=by
  show Live L (pLevel F r n k)
  unfold pLevel
  split
  ·exact H.unary L (by omega)
  ·rename_i l hk
   have hk6:k<6:=by
    have:=(List.getElem?_eq_some_iff.1 hk).1
    simpa[levels]using this
   exact Live.seq (H.level L (k+1) (by omega)) (h.level (k+1)) (fun hL _=>levelL_live h k l n _ _ (by omega) (fun L' hl=>H.level L' (k+1) (by omega)))
 unary L hn:=by
  refine Live.seq0 (sees_live F L 3 _) (sees_con F 3 _) (fun _=>Live.ite ?_ ?_)
  ·exact Live.seq (take_live F L 3) (take_con F 3) (fun hL _=>Live.seq (H.unary _ (by omega)) h.unary (fun _ _=>Live.pure _ _))
  ·exact Live.seq (H.primary L (by omega)) h.primary (fun hL e=>unaryL_live h n _ _ (by omega) (fun L' hl=>H.expr L' (by omega)))
 primary L hn:=pPrimary_live h H L hn
end
theorem recs_live (F:Flt):∀n,LiveR (recs F n) n
 | 0=>⟨fun _ h=>by omega,fun _ h=>by omega,fun _ h=>by omega,fun _ _ h=>by omega,fun _ h=>by omega,fun _ h=>by omega,fun _ h=>by omega,fun _ _ h=>by omega,fun _ h=>by omega,fun _ h=>by omega⟩
 | n+1=>step_live (recs_con F n) (recs_live F n)
section
variable (F:Flt)
theorem paramsL_con:∀n ks,Con 1 (paramsL F n ks)
 | 0,_=>Con.out 1
 | n+1,ks=>Con.mono (j:=1+0) (Con.bind (take_con F 1) (fun _=>Con.of_skip0 ((paramsL_con n _).mono (by omega)) (Con.mono (Con.bind (must_con F 3 [41]) (fun _=>Con.pure _)) (by omega)))) (by omega)
theorem paramsL_live:∀n L ks,L<n→Live L (paramsL F n ks)
 | 0,L,_,hn=>by omega
 | n+1,L,ks,hn=>Live.seq (take_live F L 1) (take_con F 1) (fun hL _=>Live.seq0 (skip_live F _ 3 _) (skip_con F 3 _) (fun _=>Live.ite
   (paramsL_live n _ _ (by omega)) (Live.seq (must_live F _ 3 _) (must_con F 3 _) (fun _ _=>Live.pure _ _))))
variable {F} {r:Rec} {m:Nat} (h:ConR r) (H:LiveR r m)
include h
theorem pParams_con (n:Nat):Con 0 (do if ←skip F 3 [41]then pure []else paramsL F n []:P (List Tree)):=Con.of_skip0 (Con.pure _) ((paramsL_con F n _).mono (by omega))
theorem pFunction_con (n:Nat):Con 1 (pFunction F r n) :=
 Con.mono (Con.bind (take_con F 1) (fun _=>Con.bind (must_con F 3 [40]) (fun _=>Con.bind (pParams_con h n) (fun _=>Con.bind h.block (fun _=>Con.pure _))))) (by omega)
include H
theorem pFunction_live (n L:Nat) (hn:L≤n) (hm:L*32≤m):Live L (pFunction F r n) :=
 Live.seq (take_live F L 1) (take_con F 1) (fun hL _=>Live.seq (must_live F _ 3 _) (must_con F 3 _) (fun hL2 _ =>
  Live.seq0 (Live.seq0 (skip_live F _ 3 _) (skip_con F 3 _) (fun _=>Live.ite (Live.pure _ _) (paramsL_live F _ _ _ (by omega)))) (pParams_con h n) (fun _ =>
   Live.seq (H.block _ (by omega)) h.block (fun _ _=>Live.pure _ _))))
theorem programL_live (q:Nat):∀n L ks,L<n→L≤q→L*32≤m→Live L (programL F r q n ks)
 | 0,L,_,hn,_,_=>by omega
 | n+1,L,ks,hn,hq,hm=>by
  refine Live.look_adv (fun t hL=>Live.ite (Live.pure _ _) ?_)
  intro ts hl
  rw[bind_eq]
  unfold P.bind
  split
  ·rename_i he;exact absurd he (skip_live F L 2 _ ts hl)
  ·simp
  ·rename_i b t1 he
   have hc:=skip_con F 2 _ _ _ _ he
   cases b with
   | true =>
    obtain⟨p,rfl⟩:=skip_true F he
    have hl':t1.length≤L-1:=by simp at hl;omega
    simp only[if_true]
    exact(Live.seq (take_live F (L-1) 1) (take_con F 1) (fun hL t=>Live.seq (must_live F _ 3 [59]) (must_con F 3 [59]) (fun hL2 _=>programL_live q n _ (ks++[leaf 2 t.at' t.text []]) (by omega) (by omega) (by omega)))) t1 hl'
   | false =>
    simp only[Bool.false_eq_true,if_false]
    rw[bind_eq]
    unfold P.bind
    split
    ·rename_i he2;exact absurd he2 (skip_live F L 2 _ t1 (by omega))
    ·simp
    ·rename_i b t2 he2
     cases b with
     | true =>
      obtain⟨p,rfl⟩:=skip_true F he2
      have hl':t2.length≤L-1:=by simp at hc;omega
      simp only[if_true]
      exact(Live.seq (pFunction_live h H q (L-1) (by omega) (by omega)) (pFunction_con h q) (fun hL f=>programL_live q n _ (ks++[f]) (by omega) (by omega) (by omega))) t2 hl'
     | false=>simpa using wrong_live F (α:=List Tree) t2.length t2 (Nat.le_refl _)
end
theorem programL_con {F:Flt} {r:Rec} (h:ConR r) (q:Nat):∀n ks,Con 0 (programL F r q n ks)
 | 0,_=>Con.out 0
 | n+1,ks=>Con.of_look (fun _=>ConN.ite (Con.pure _).n (Con.n (Con.of_skip0
   (Con.mono (Con.bind (take_con F 1) (fun _=>Con.bind (must_con F 3 [59]) (fun _=>programL_con h q n _))) (by omega))
   (Con.of_skip0 (Con.mono (Con.bind (pFunction_con h q) (fun _=>programL_con h q n _)) (by omega)) (wrong_con F 0)))))
theorem pProgram_live (F:Flt) (ts:TS) (n:Nat) (hn:ts.length*32+1≤n):pProgram F n ts≠none :=
 (Live.seq (k:=0) (programL_live (recs_con F n) (recs_live F n) n n ts.length [] (by omega) (by omega) (by omega))
  (programL_con (recs_con F n) n n []) (fun _ _=>Live.pure _ _)) ts (Nat.le_refl _)
theorem decF_len:∀(k f n:Nat) (acc:Bytes),n<10 ^ (k+1)→(decF f n acc).length≤acc.length+(k+1)
 | k,0,n,acc,_=>by simp[decF]
 | 0,f+1,n,acc,h=>by
  unfold decF
  rw[if_pos (by simpa using h)];simp
 | k+1,f+1,n,acc,h=>by
  unfold decF
  split
  ·simp
  ·have:=decF_len k f (n/10) (UInt8.ofNat (48+n%10)::acc) (by rw[Nat.div_lt_iff_lt_mul (by decide)];rw[Nat.pow_succ]at h;exact h)
   simp at this ⊢;omega
theorem decI_len (i:Int) (h:i.natAbs<10 ^ 20):(decI i).length≤21:=by
 have:=decF_len 19 (i.natAbs+1) i.natAbs [] h
 unfold decI dec
 split<;>simp at this ⊢ <;> omega
theorem fracT_len:∀f m,(fracT f m).length≤f
 | 0,_=>by simp[fracT]
 | f+1,m=>by
  unfold fracT
  split
  ·simp
  ·have:=fracT_len f (m*16%2 ^ 52);simp;omega
theorem floatTail_len (f:Nat) (e:Int) (h:e.natAbs<10 ^ 20):(floatTail f e).length≤60:=by
 have:=decI_len e h
 have:=fracT_len 14 f
 unfold floatTail
 simp only[List.length_append]
 have h1:(if (f==0)=true then([]:Bytes) else[46]).length≤1:=by split<;>simp
 have h2:(if 0≤e then([43]:Bytes) else[]).length≤1:=by split<;>simp
 simp only[List.length_cons,List.length_nil]
 omega
theorem floatT_len (b:Nat):(floatT b).length≤61:=by
 unfold floatT
 simp only
 have h0:(if (b/2 ^ 63==1)=true then([45]:Bytes) else[]).length≤1:=by split<;>simp
 generalize (if (b/2 ^ 63==1)=true then([45]:Bytes) else[])=sg at h0
 have hE:b/2 ^ 52%2048<2048:=Nat.mod_lt _ (by decide)
 generalize b/2 ^ 52%2048=E at hE
 generalize b%2 ^ 52=f
 split
 ·simp
 split
 ·simp;omega
 split
 ·simp;omega
 split
 ·have:=floatTail_len (f*2 ^ (52-f.log2)%2 ^ 52) (1-((52-f.log2:Nat):Int)-1023) (by rw[show(10:Nat) ^ 20=100000000000000000000 by decide];omega)
  simp only[List.length_append];omega
 ·have:=floatTail_len f ((E:Int)-1023) (by rw[show(10:Nat) ^ 20=100000000000000000000 by decide];omega)
  simp only[List.length_append];omega
end Ck
end
