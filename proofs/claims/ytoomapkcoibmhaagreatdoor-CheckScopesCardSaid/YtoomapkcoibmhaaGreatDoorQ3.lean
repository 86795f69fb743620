/- A part of the proof. -/
import Derived.Test.YtoomapkcoibmhaaGreatDoorQ2
set_option maxRecDepth 100000
set_option maxHeartbeats 12800000
set_option linter.all false
section
namespace Ck
def Sat {α:Type} (Q:α→Prop) (p:P α):Prop:=∀ts a ts',p ts=some (.ok (a,ts'))→Q a
section
variable {α β:Type} {Q:α→Prop} {R:β→Prop}
theorem Sat.bindQ {x:P β} {f:β→P α} (hx:Sat R x) (hf:∀a,R a→Sat Q (f a)):Sat Q (x >>= f):=by
 intro ts a ts' h
 obtain⟨b,t1,h1,h2⟩:=bind_ok h
 exact hf b (hx _ _ _ h1) _ _ _ h2
theorem Sat.bind {x:P β} {f:β→P α} (hf:∀a,Sat Q (f a)):Sat Q (x >>= f):=Sat.bindQ (R:=fun _=>True) (fun _ _ _ _=>trivial) (fun a _=>hf a)
theorem Sat.pure {a:α} (h:Q a):Sat Q (pure a:P α):=by
 intro ts b ts' e
 rw[pure_eq]at e
 simp only[Option.some.injEq,Except.ok.injEq,Prod.mk.injEq]at e
 exact e.1 ▸ h
theorem Sat.fail (f:Flt):Sat Q (P.fail f:P α):=fun _ _ _ e=>by cases e
theorem Sat.out:Sat Q (P.out:P α):=fun _ _ _ e=>by cases e
theorem Sat.ite {c:Prop} [Decidable c] {x y:P α} (hx:Sat Q x) (hy:Sat Q y):Sat Q (if c then x else y):=by split<;>assumption
theorem Sat.wrong {F:Flt}:Sat Q (wrong F:P α):=Sat.bind (fun _=>Sat.fail _)
end
def Idx (t:Tree):Prop:=t.n.kind=24→t.ks.length=2
theorem Idx.leaf {k a:Int} {x:Bytes} {l:List Tree} (h:k≠24):Idx (leaf k a x l):=fun e=>absurd e h
structure SatR (r:Rec):Prop where
 expr:Sat Idx r.expr
 and':Sat Idx r.and'
 not':Sat Idx r.not'
 level:∀k,Sat Idx (r.level k)
 unary:Sat Idx r.unary
 primary:Sat Idx r.primary
section
variable {F:Flt} {r:Rec} (h:SatR r)
theorem exprL_sat:∀n e,Idx e→Sat Idx (exprL F r n e)
 | 0,_,_=>Sat.out
 | n+1,e,he=>Sat.bind fun _=>Sat.ite (Sat.bind fun _=>Sat.bind fun _=>exprL_sat n _ (Idx.leaf (by decide))) (Sat.pure he)
theorem andL_sat:∀n e,Idx e→Sat Idx (andL F r n e)
 | 0,_,_=>Sat.out
 | n+1,e,he=>Sat.bind fun _=>Sat.ite (Sat.bind fun _=>Sat.bind fun _=>andL_sat n _ (Idx.leaf (by decide))) (Sat.pure he)
theorem pTwo_sat (e:Tree) (k:Nat):Sat Idx (pTwo F r e k):=Sat.bind fun _=>Sat.bind fun _=>Sat.pure (Idx.leaf (by decide))
theorem levelL_sat (k:Nat) (l:List Bytes):∀n e,Idx e→Sat Idx (levelL F r k l n e)
 | 0,_,_=>Sat.out
 | n+1,e,he=>Sat.bind fun _=>Sat.ite (Sat.bindQ (pTwo_sat e (k+1)) fun e' he'=>levelL_sat k l n e' he') (Sat.pure he)
theorem unaryL_sat:∀n e,Idx e→Sat Idx (unaryL F r n e)
 | 0,_,_=>Sat.out
 | n+1,e,he=>Sat.bind fun _=>Sat.ite (Sat.bind fun _=>Sat.bind fun _=>Sat.bind fun _=>unaryL_sat n _ (fun _=>rfl)) (Sat.pure he)
include h in
theorem step_sat (n:Nat):SatR (step F r n) where
 expr:=Sat.bindQ h.and' fun e he=>exprL_sat n e he
 and':=Sat.bindQ h.not' fun e he=>andL_sat n e he
 not':=Sat.bind fun _=>Sat.ite (Sat.bind fun _=>Sat.bind fun _=>Sat.pure (Idx.leaf (by decide))) (Sat.bindQ (h.level 0) fun e he=>Sat.bind fun _=>Sat.ite (pTwo_sat e 0) (Sat.pure he))
 level k:=by
  show Sat Idx (pLevel F r n k)
  unfold pLevel
  split
  ·exact h.unary
  ·exact Sat.bindQ (h.level (k+1)) fun e he=>levelL_sat k _ n e he
 unary:=Sat.bind fun _=>Sat.ite (Sat.bind fun _=>Sat.bind fun _=>Sat.pure (Idx.leaf (by decide))) (Sat.bindQ h.primary fun e he=>unaryL_sat n e he)
 primary:=by
  show Sat Idx (pPrimary F r n)
  refine Sat.bind fun t=>?_
  refine Sat.ite (Sat.bind fun _=>Sat.pure (fun e=>absurd e (by decide:(26:Int)≠24))) ?_
  refine Sat.ite (Sat.bind fun _=>Sat.pure (fun e=>absurd e (by decide:(27:Int)≠24))) ?_
  refine Sat.ite (Sat.bind fun _=>Sat.pure (Idx.leaf (by decide))) ?_
  refine Sat.ite ?_ ?_
  ·split
   ·rename_i k hk
    refine Sat.bind fun _=>Sat.pure (Idx.leaf ?_)
    unfold constantKind at hk
    split at hk
    ·cases hk;decide
    ·split at hk
     ·cases hk;decide
     ·split at hk
      ·cases hk;decide
      ·cases hk
   ·exact Sat.wrong
  refine Sat.ite (Sat.bind fun _=>Sat.bind fun _=>Sat.ite (Sat.bind fun _=>Sat.ite (Sat.pure (Idx.leaf (by decide))) (Sat.bind fun _=>Sat.pure (Idx.leaf (by decide)))) (Sat.pure (Idx.leaf (by decide)))) ?_
  exact Sat.ite (Sat.bind fun _=>Sat.ite (Sat.bindQ h.expr fun e he=>Sat.bind fun _=>Sat.pure he) Sat.wrong) Sat.wrong
end
theorem recs_sat (F:Flt):∀n,SatR (recs F n)
 | 0=>⟨Sat.out,Sat.out,Sat.out,fun _=>Sat.out,Sat.out,Sat.out⟩
 | n+1=>step_sat (recs_sat F n) n
def wO (xo:Int × Bytes) (bo:Nat) (k:Int) (a:Int) (t:Bytes) (c:Int):Nat:=if k==c&&(a,t)==xo then bo else 0
def tsw (xo:Int × Bytes) (bo:Nat):TS→Nat
 | []=>0
 | p::l=>1+wO xo bo p.1.kind p.1.at' p.1.text 3+tsw xo bo l
def nsw (xo:Int × Bytes) (bo:Nat):List Node→Nat
 | []=>0
 | n::l=>1+wO xo bo n.kind n.at' n.text 21+nsw xo bo l
variable {xo:Int × Bytes} {bo:Nat}
theorem nsw_append (l l':List Node):nsw xo bo (l++l')=nsw xo bo l+nsw xo bo l':=by
 induction l with
 | nil=>simp[nsw]
 | cons n l ih=>simp only[List.cons_append,nsw,ih];omega
theorem tsw_tail (ts:TS):tsw xo bo ts.tail≤tsw xo bo ts:=by
 cases ts with
 | nil=>exact Nat.le_refl _
 | cons p l=>simp only[List.tail,tsw];omega
theorem wO_no {k a c:Int} {t:Bytes} (h:k≠c):wO xo bo k a t c=0:=by
 unfold wO
 rw[if_neg]
 simp[h]
def Sz {α:Type} (xo:Int × Bytes) (bo:Nat) (m:α→Nat) (c:Nat) (p:P α):Prop:=∀ts a ts',p ts=some (.ok (a,ts'))→m a+tsw xo bo ts'≤c+tsw xo bo ts
def SzN {α:Type} (xo:Int × Bytes) (bo:Nat) (m:α→Nat) (c:Nat) (p:P α):Prop:=∀ts a ts',ts≠[]→p ts=some (.ok (a,ts'))→m a+tsw xo bo ts'≤c+tsw xo bo ts
section
variable {α β:Type} {m:α→Nat} {q:β→Nat} {c e:Nat}
theorem Sz.n {p:P α} (h:Sz xo bo m c p):SzN xo bo m c p:=fun ts a ts' _ he=>h ts a ts' he
theorem Sz.bind {x:P β} {f:β→P α} (hx:Sz xo bo q c x) (hf:∀a,Sz xo bo m (q a+e) (f a)):Sz xo bo m (c+e) (x >>= f):=by
 intro ts b ts' h
 obtain⟨a,t1,h1,h2⟩:=bind_ok h
 have:=hx _ _ _ h1
 have:=hf a _ _ _ h2
 omega
theorem Sz.bindQ {Q:β→Prop} {x:P β} {f:β→P α} (hx:Sz xo bo q c x) (hQ:Sat Q x) (hf:∀a,Q a→Sz xo bo m (q a+e) (f a)):Sz xo bo m (c+e) (x >>= f):=by
 intro ts b ts' h
 obtain⟨a,t1,h1,h2⟩:=bind_ok h
 have:=hx _ _ _ h1
 have:=hf a (hQ _ _ _ h1) _ _ _ h2
 omega
theorem SzN.bind {x:P β} {f:β→P α} (hx:SzN xo bo q c x) (hf:∀a,Sz xo bo m (q a+e) (f a)):SzN xo bo m (c+e) (x >>= f):=by
 intro ts b ts' hn h
 obtain⟨a,t1,h1,h2⟩:=bind_ok h
 have:=hx _ _ _ hn h1
 have:=hf a _ _ _ h2
 omega
theorem Sz.mono {p:P α} {c':Nat} (h:Sz xo bo m c p) (hc:c≤c'):Sz xo bo m c' p:=fun ts a ts' he=>by have:=h ts a ts' he;omega
theorem SzN.mono {p:P α} {c':Nat} (h:SzN xo bo m c p) (hc:c≤c'):SzN xo bo m c' p:=fun ts a ts' hn he=>by have:=h ts a ts' hn he;omega
theorem Sz.pure {a:α} (h:m a≤c):Sz xo bo m c (pure a:P α):=by
 intro ts b ts' e
 rw[pure_eq]at e
 simp only[Option.some.injEq,Except.ok.injEq,Prod.mk.injEq]at e
 obtain⟨rfl,rfl⟩:=e
 omega
theorem Sz.fail (f:Flt):Sz xo bo m c (P.fail f:P α):=fun _ _ _ e=>by cases e
theorem Sz.out:Sz xo bo m c (P.out:P α):=fun _ _ _ e=>by cases e
theorem Sz.ite {g:Prop} [Decidable g] {x y:P α} (hx:Sz xo bo m c x) (hy:Sz xo bo m c y):Sz xo bo m c (if g then x else y):=by split<;>assumption
theorem SzN.ite {g:Prop} [Decidable g] {x y:P α} (hx:SzN xo bo m c x) (hy:SzN xo bo m c y):SzN xo bo m c (if g then x else y):=by split<;>assumption
end
section
variable (F:Flt)
theorem look_sz:Sz xo bo (fun _=>0) 0 (look F):=fun ts a ts' h=>by
 obtain⟨o,r,e1,e2⟩:=look_some F h
 rw[e2];exact Nat.le_of_eq rfl
theorem look1_keep (ts:TS) (a:Tok) (ts':TS) (h:look1 F ts=some (.ok (a,ts'))):ts'=ts:=by
 unfold look1 at h
 split at h
 ·cases h;rfl
 ·cases h
theorem sees_sz (k:Int) (l:List Bytes):Sz xo bo (fun _=>0) 0 (sees F k l):=fun ts a ts' h=>by
 obtain⟨t,t1,h1,h2⟩:=bind_ok h
 obtain⟨o,r,e1,e2⟩:=look_some F h1
 rw[pure_eq]at h2
 cases h2
 rw[e2];exact Nat.le_of_eq rfl
theorem adv_sz:Sz xo bo (fun _=>0) 0 adv:=fun ts a ts' h=>by
 cases h
 have:=tsw_tail (xo:=xo) (bo:=bo) ts
 simp only[Nat.zero_add];omega
theorem adv_szN:SzN xo bo (fun _=>1) 0 adv:=fun ts a ts' hn h=>by
 cases ts with
 | nil=>exact absurd rfl hn
 | cons p l=>cases h;simp only[List.tail,tsw];omega
theorem take_w (k:Int) (ts:TS) (a:Tok) (ts':TS) (h:take F k ts=some (.ok (a,ts'))):a.kind=k∧1+wO xo bo a.kind a.at' a.text 3+tsw xo bo ts'≤tsw xo bo ts:=by
 obtain⟨t,t1,h1,h2⟩:=bind_ok h
 obtain⟨o,r,e1,e2⟩:=look_some F h1
 subst e1 e2
 split at h2
 ·rename_i hk
  obtain⟨_,t3,h5,h6⟩:=bind_ok h2
  rw[pure_eq]at h6
  cases h5
  cases h6
  exact⟨beq_iff_eq.1 hk,by simp only[List.tail,tsw];omega⟩
 ·obtain⟨t',t1',h1',h2'⟩:=bind_ok h2
  cases h2'
theorem take_sz (k:Int):Sz xo bo (fun _=>1) 0 (take F k):=fun ts a ts' h=>by have:=(take_w (xo:=xo) (bo:=bo) F k ts a ts' h).2;simp only;omega
theorem skip_sz (k:Int) (t:Bytes):Sz xo bo (fun _=>0) 0 (skip F k t):=fun ts a ts' h=>by
 obtain⟨b,t1,h1,h2⟩:=bind_ok h
 have h3:=sees_sz (xo:=xo) (bo:=bo) F k [t] _ _ _ h1
 split at h2
 ·obtain⟨_,t3,h5,h6⟩:=bind_ok h2
  have h7:=adv_sz (xo:=xo) (bo:=bo) _ _ _ h5
  cases h6
  simp only at h3 h7 ⊢;omega
 ·cases h2;exact h3
theorem must_sz (k:Int) (t:Bytes):Sz xo bo (fun _=>1) 0 (must F k t):=fun ts a ts' h=>by
 obtain⟨t,t1,h1,h2⟩:=bind_ok h
 obtain⟨o,r,e1,e2⟩:=look_some F h1
 subst e1 e2
 obtain⟨b,t2,h3,h4⟩:=bind_ok h2
 split at h4
 ·rename_i hb
  subst hb
  obtain⟨p,hp⟩:=skip_true F h3
  cases h4
  rw[hp];simp only[tsw];omega
 ·obtain⟨t',t1',h1',h2'⟩:=bind_ok h4
  cases h2'
theorem wrong_sz {α:Type} {m:α→Nat} {c:Nat}:Sz xo bo m c (wrong F:P α):=by
 have:Sz xo bo m (0+c) (wrong F:P α):=Sz.bind (look_sz F) (fun _=>Sz.fail _)
 simpa using this
theorem Sz.of_look {α:Type} {m:α→Nat} {c:Nat} {f:Tok→P α} (h:∀t,SzN xo bo m c (f t)):Sz xo bo m c (look F >>= f):=by
 intro ts a ts' he
 obtain⟨t,t1,h1,h2⟩:=bind_ok he
 obtain⟨o,r,e1,e2⟩:=look_some F h1
 subst e2
 exact h t _ _ _ (by rw[e1];simp) h2
theorem SzN.keep {α β:Type} {m:α→Nat} {c:Nat} {x:P β} {f:β→P α} (hx:∀ts a ts',x ts=some (.ok (a,ts'))→ts'=ts) (hf:∀a,SzN xo bo m c (f a)):SzN xo bo m c (x >>= f):=by
 intro ts a ts' hn he
 obtain⟨b,t1,h1,h2⟩:=bind_ok he
 obtain rfl:=hx _ _ _ h1
 exact hf b _ _ _ hn h2
end
def tm (xo:Int × Bytes) (bo:Nat) (t:Tree):Nat:=nsw xo bo t.row
def km (xo:Int × Bytes) (bo:Nat) (l:List Tree):Nat:=nsw xo bo (rows l)
theorem km_nil:km xo bo []=0:=rfl
theorem km_cons (t:Tree) (l:List Tree):km xo bo (t::l)=tm xo bo t+km xo bo l:=by simp only[km,tm,rows,nsw_append]
theorem km_append (a b:List Tree):km xo bo (a++b)=km xo bo a+km xo bo b:=by
 induction a with
 | nil=>simp[km_nil]
 | cons t l ih=>rw[List.cons_append,km_cons,km_cons,ih];omega
theorem tm_mk (n:Node) (l:List Tree):tm xo bo (.mk n l)=1+wO xo bo n.kind n.at' n.text 21+km xo bo l:=by simp only[tm,km,Tree.row,nsw]
theorem tm_op (a:Int) (t:Bytes) (l:List Tree):tm xo bo (leaf 21 a t l)=1+wO xo bo 21 a t 21+km xo bo l:=tm_mk _ _
theorem tm_leaf (k a:Int) (t:Bytes) (l:List Tree) (hk:k≠21):tm xo bo (leaf k a t l)=1+km xo bo l:=by
 unfold leaf;rw[tm_mk,wO_no hk]
theorem tm_ks (t:Tree):1+km xo bo t.ks≤tm xo bo t:=by cases t;rw[tm_mk];simp only[Tree.ks];omega
theorem constantKind_ne {t:Bytes} {k:Int} (h:constantKind t=some k):k≠21:=by
 unfold constantKind at h
 repeat' split at h
 all_goals cases h
 all_goals decide
structure SzR (xo:Int × Bytes) (bo:Nat) (r:Rec):Prop where
 block:Sz xo bo (tm xo bo) 0 r.block
 statement:Sz xo bo (tm xo bo) 0 r.statement
 choice:Sz xo bo (tm xo bo) 0 r.choice
 loop:∀l,Sz xo bo (tm xo bo) (match l with|some _=>1|none=>0) (r.loop l)
 expr:Sz xo bo (tm xo bo) 0 r.expr
 and':Sz xo bo (tm xo bo) 0 r.and'
 not':Sz xo bo (tm xo bo) 0 r.not'
 level:∀k,Sz xo bo (tm xo bo) 0 (r.level k)
 unary:Sz xo bo (tm xo bo) 0 r.unary
 primary:Sz xo bo (tm xo bo) 0 r.primary
section
variable {F:Flt} {r:Rec} (h:SzR xo bo r)
include h
theorem blockL_sz:∀n ks,Sz xo bo (km xo bo) (km xo bo ks) (blockL F r n ks)
 | 0,_=>Sz.out
 | n+1,ks=>by
  refine Sz.mono (Sz.bind (e:=km xo bo ks) (skip_sz F 3 [125]) fun _=>Sz.ite (Sz.pure (by omega)) (Sz.mono (Sz.bind (e:=km xo bo ks) h.statement fun s=>Sz.mono (blockL_sz n _) ?_) (by omega))) (by omega)
  rw[km_append,km_cons,km_nil];omega
theorem pBlock_sz (n:Nat):Sz xo bo (tm xo bo) 0 (pBlock F r n) :=
 Sz.mono (Sz.bind (e:=0) (must_sz F 3 [123]) fun _=>Sz.mono (Sz.bind (e:=1) (blockL_sz h n []) fun ks=>Sz.pure (by simp only[tm_leaf,ne_eq,Int.reduceEq,not_false_eq_true];omega)) (by simp[km_nil])) (by omega)
theorem exprL_sz:∀n e,Sz xo bo (tm xo bo) (tm xo bo e) (exprL F r n e)
 | 0,_=>Sz.out
 | n+1,e=>by
  refine Sz.mono (Sz.bind (e:=tm xo bo e) (sees_sz F _ _) fun _=>Sz.ite (Sz.mono (Sz.bind (e:=tm xo bo e) (must_sz F _ _) fun _=>Sz.mono (Sz.bind (e:=1+tm xo bo e) h.and' fun g=>Sz.mono (exprL_sz n _) ?_) (by omega)) (by omega)) (Sz.pure (by omega))) (by omega)
  simp only[tm_leaf,km_cons,km_cons,km_nil,ne_eq,Int.reduceEq,not_false_eq_true];omega
theorem andL_sz:∀n e,Sz xo bo (tm xo bo) (tm xo bo e) (andL F r n e)
 | 0,_=>Sz.out
 | n+1,e=>by
  refine Sz.mono (Sz.bind (e:=tm xo bo e) (sees_sz F _ _) fun _=>Sz.ite (Sz.mono (Sz.bind (e:=tm xo bo e) (must_sz F _ _) fun _=>Sz.mono (Sz.bind (e:=1+tm xo bo e) h.not' fun g=>Sz.mono (andL_sz n _) ?_) (by omega)) (by omega)) (Sz.pure (by omega))) (by omega)
  simp only[tm_leaf,km_cons,km_cons,km_nil,ne_eq,Int.reduceEq,not_false_eq_true];omega
theorem pTwo_sz (e:Tree) (k:Nat):Sz xo bo (tm xo bo) (tm xo bo e) (pTwo F r e k):=by
 intro ts a ts' he
 obtain⟨t,t1,h1,h2⟩:=bind_ok he
 obtain⟨f,t2,h3,h4⟩:=bind_ok h2
 obtain⟨hk,ht⟩:=take_w (xo:=xo) (bo:=bo) F 3 _ _ _ h1
 have:=h.level k _ _ _ h3
 rw[pure_eq]at h4
 cases h4
 rw[tm_op,km_cons,km_cons,km_nil]
 rw[hk]at ht
 have e:wO xo bo 3 t.at' t.text 3=wO xo bo 21 t.at' t.text 21:=rfl
 omega
theorem levelL_sz (k:Nat) (l:List Bytes):∀n e,Sz xo bo (tm xo bo) (tm xo bo e) (levelL F r k l n e)
 | 0,_=>Sz.out
 | n+1,e=>Sz.mono (Sz.bind (e:=tm xo bo e) (sees_sz F _ _) fun _=>Sz.ite (Sz.mono (Sz.bind (e:=0) (pTwo_sz h e (k+1)) fun g=>Sz.mono (levelL_sz k l n g) (by omega)) (by omega)) (Sz.pure (by omega))) (by omega)
theorem unaryL_sz:∀n e,Sz xo bo (tm xo bo) (tm xo bo e) (unaryL F r n e)
 | 0,_=>Sz.out
 | n+1,e=>by
  refine Sz.mono (Sz.bind (e:=tm xo bo e) (sees_sz F _ _) fun _=>Sz.ite (Sz.mono (Sz.bind (e:=tm xo bo e) (must_sz F _ _) fun _=>Sz.mono (Sz.bind (e:=1+tm xo bo e) h.expr fun g=>Sz.mono (Sz.bind (e:=tm xo bo g+(1+tm xo bo e)) (must_sz F _ _) fun _=>Sz.mono (unaryL_sz n _) ?_) (by omega)) (by omega)) (by omega)) (Sz.pure (by omega))) (by omega)
  simp only[tm_leaf,km_cons,km_cons,km_nil,ne_eq,Int.reduceEq,not_false_eq_true];omega
theorem callL_sz:∀n ks,Sz xo bo (km xo bo) (km xo bo ks) (callL F r n ks)
 | 0,_=>Sz.out
 | n+1,ks=>by
  refine Sz.mono (Sz.bind (e:=km xo bo ks) h.expr fun g=>Sz.mono (Sz.bind (e:=tm xo bo g+km xo bo ks) (skip_sz F _ _) fun _=>Sz.ite (Sz.mono (callL_sz n _) ?_) (Sz.mono (Sz.bind (e:=tm xo bo g+km xo bo ks) (must_sz F _ _) fun _=>Sz.pure ?_) (by omega))) (by omega)) (by omega)
  ·rw[km_append,km_cons,km_nil];omega
  ·rw[km_append,km_cons,km_nil];omega
omit h in
theorem pEnd_sz (t:Tree) (c:Nat) (hc:tm xo bo t≤c+1):Sz xo bo (tm xo bo) c (pEnd F t) :=
 Sz.mono (Sz.bind (e:=c) (must_sz F 3 _) fun _=>Sz.pure (by omega)) (by omega)
theorem pPlain_sz (hQ:Sat Idx r.expr):Sz xo bo (tm xo bo) 0 (pPlain F r):=by
 refine Sz.mono (Sz.bindQ (e:=0) h.expr hQ fun e he=>?_) (by omega)
 have hE:Sz xo bo (tm xo bo) (tm xo bo e+0) (pEnd F (leaf 17 e.n.at' [] [e])):=pEnd_sz _ _ (by simp only[tm_leaf,km_cons,km_nil,ne_eq,Int.reduceEq,not_false_eq_true];omega)
 have hte:=tm_ks (xo:=xo) (bo:=bo) e
 cases h25:e.n.kind==25
 ·cases h24:e.n.kind==24
  ·simp only[h25,h24,Bool.or_self,Bool.false_eq_true,if_false];exact hE
  ·simp only[h25,h24,Bool.or_true,Bool.false_eq_true,if_true,if_false]
   obtain⟨k0,k1,hks⟩:∃k0 k1,e.ks=[k0,k1]:=by
    have hl:=he (by simpa using h24)
    match e.ks,hl with
    | [k0,k1],_=>exact⟨k0,k1,rfl⟩
   rw[hks,km_cons,km_cons,km_nil]at hte
   refine Sz.mono (Sz.bind (e:=tm xo bo e) (skip_sz F _ _) fun _=>Sz.ite (Sz.mono (Sz.bind (e:=tm xo bo e) h.expr fun v=>pEnd_sz _ _ ?_) (by omega)) (Sz.mono hE (by omega))) (by omega)
   simp only[hks,tm_leaf,ne_eq,Int.reduceEq,not_false_eq_true]
   simp only[List.getD_cons_zero,List.getD_cons_succ,km_cons,km_nil];omega
 ·simp only[h25,Bool.true_or,if_true]
  refine Sz.mono (Sz.bind (e:=tm xo bo e) (skip_sz F _ _) fun _=>Sz.ite (Sz.mono (Sz.bind (e:=tm xo bo e) h.expr fun v=>pEnd_sz _ _ ?_) (by omega)) (Sz.mono hE (by omega))) (by omega)
  simp only[tm_leaf,km_cons,km_nil,ne_eq,Int.reduceEq,not_false_eq_true];omega
theorem pChoice_sz:Sz xo bo (tm xo bo) 0 (pChoice F r):=by
 refine Sz.mono (Sz.bind (e:=0) (must_sz F _ _) fun _=>Sz.mono (Sz.bind (e:=1) h.expr fun e=>Sz.mono (Sz.bind (e:=tm xo bo e+1) h.block fun b=>Sz.mono (Sz.bind (e:=tm xo bo b+(tm xo bo e+1)) (skip_sz F _ _) fun _=>Sz.ite ?_ (Sz.pure ?_)) (by omega)) (by omega)) (by omega)) (by omega)
 ·refine Sz.mono (Sz.bind (e:=tm xo bo b+(tm xo bo e+1)) (sees_sz F _ _) fun _=>Sz.ite (Sz.mono (Sz.bind (e:=tm xo bo b+(tm xo bo e+1)) h.choice fun c=>Sz.pure ?_) (by omega)) (Sz.mono (Sz.bind (e:=tm xo bo b+(tm xo bo e+1)) h.block fun c=>Sz.pure ?_) (by omega))) (by omega)
  ·simp only[tm_leaf,km_cons,km_cons,km_cons,km_nil,ne_eq,Int.reduceEq,not_false_eq_true];omega
  ·simp only[tm_leaf,km_cons,km_cons,km_cons,km_nil,ne_eq,Int.reduceEq,not_false_eq_true];omega
 ·simp only[tm_leaf,km_cons,km_cons,km_nil,ne_eq,Int.reduceEq,not_false_eq_true];omega
theorem pLoop_sz (l:Option Tok):Sz xo bo (tm xo bo) (match l with|some _=>1|none=>0) (pLoop F r l):=by
 have key:∀c lt (ll:List Tree),km xo bo ll≤c→Sz xo bo (tm xo bo) c (do
   let t ←take F 2
   if t.text==[119,104,105,108,101] then
    let e ←r.expr
    let b ←r.block
    pure (leaf 10 t.at' lt [e,b])
   else
    let v ←take F 1
    let _ ←must F 2 [105,110]
    let e ←r.expr
    let _ ←must F 3 [46,46]
    let g ←r.expr
    let b ←r.block
    pure (leaf 11 t.at' v.text (ll++[e,g,b]))):=by
  intro c lt ll hc
  refine Sz.mono (Sz.bind (e:=c) (take_sz F _) fun t=>Sz.ite (Sz.mono (Sz.bind (e:=1+c) h.expr fun e=>Sz.mono (Sz.bind (e:=tm xo bo e+(1+c)) h.block fun b=>Sz.pure ?_) (by omega)) (by omega)) (Sz.mono (Sz.bind (e:=1+c) (take_sz F _) fun v=>Sz.mono (Sz.bind (e:=1+c) (must_sz F _ _) fun _=>Sz.mono (Sz.bind (e:=1+c) h.expr fun e=>Sz.mono (Sz.bind (e:=tm xo bo e+(1+c)) (must_sz F _ _) fun _=>Sz.mono (Sz.bind (e:=tm xo bo e+(1+c)) h.expr fun g=>Sz.mono (Sz.bind (e:=tm xo bo g+(tm xo bo e+(1+c))) h.block fun b=>Sz.pure ?_) (by omega)) (by omega)) (by omega)) (by omega)) (by omega)) (by omega))) (by omega)
  ·simp only[tm_leaf,km_cons,km_cons,km_nil,ne_eq,Int.reduceEq,not_false_eq_true];omega
  ·simp only[tm_leaf,km_append,km_cons,km_cons,km_cons,km_nil,ne_eq,Int.reduceEq,not_false_eq_true];omega
 cases l with
 | none=>exact key 0 [] [] (by simp[km_nil])
 | some l=>exact key 1 l.text [leaf 12 l.at' l.text []] (by simp only[km_cons,tm_leaf,km_nil,ne_eq,Int.reduceEq,not_false_eq_true];omega)
theorem pPrimary_sz (n:Nat):Sz xo bo (tm xo bo) 0 (pPrimary F r n):=by
 unfold pPrimary
 refine Sz.of_look F fun t=>?_
 have hleaf:∀T:Tree,tm xo bo T≤1→SzN xo bo (tm xo bo) 0 (adv >>= fun _=>(pure T:P Tree)):=fun T hT=>SzN.mono (SzN.bind (e:=0) adv_szN fun _=>Sz.pure (by omega)) (by omega)
 refine SzN.ite (hleaf _ (by rw[tm_mk,wO_no (by simp),km_nil];omega)) ?_
 refine SzN.ite (hleaf _ (by rw[tm_mk,wO_no (by simp),km_nil];omega)) ?_
 refine SzN.ite (hleaf _ (by simp only[tm_leaf,km_nil,ne_eq,Int.reduceEq,not_false_eq_true];omega)) ?_
 refine SzN.ite ?_ ?_
 ·split
  ·rename_i hk
   exact hleaf _ (by rw[tm_leaf _ _ _ _ (constantKind_ne hk),km_nil];omega)
  ·exact(wrong_sz F).n
 refine SzN.ite ?_ ?_
 ·refine SzN.mono (SzN.bind (e:=0) adv_szN fun _=>Sz.mono (Sz.bind (e:=1) (skip_sz F _ _) fun _=>Sz.ite (Sz.mono (Sz.bind (e:=1) (skip_sz F _ _) fun _=>Sz.ite (Sz.pure (by simp only[tm_leaf,km_nil,ne_eq,Int.reduceEq,not_false_eq_true];omega)) (Sz.mono (Sz.bind (e:=1) (callL_sz h n []) fun ks=>Sz.pure (by simp only[tm_leaf,ne_eq,Int.reduceEq,not_false_eq_true];omega)) (by simp[km_nil]))) (by omega)) (Sz.pure (by simp only[tm_leaf,km_nil,ne_eq,Int.reduceEq,not_false_eq_true];omega))) (by omega)) (by omega)
 refine SzN.ite ?_ (wrong_sz F).n
 exact(Sz.mono (Sz.bind (e:=0) (skip_sz F _ _) fun _=>Sz.ite (Sz.mono (Sz.bind (e:=0) h.expr fun e=>Sz.mono (Sz.bind (e:=tm xo bo e) (must_sz F _ _) fun _=>Sz.pure (by omega)) (by omega)) (by omega)) (wrong_sz F)) (by omega)).n
theorem pStatement_sz (hQ:Sat Idx r.expr):Sz xo bo (tm xo bo) 0 (pStatement F r):=by
 unfold pStatement
 refine Sz.of_look F fun t=>?_
 refine SzN.keep ?_ fun c=>?_
 ·intro ts a ts' he
  split at he
  ·obtain⟨d,t1,h1,h2⟩:=bind_ok he
   rw[pure_eq]at h2
   cases h2
   exact look1_keep F _ _ _ h1
  ·rw[pure_eq]at he
   cases he;rfl
 refine SzN.ite ?_ (SzN.ite ?_ (pPlain_sz h hQ).n)
 ·exact SzN.mono (SzN.bind (e:=0) adv_szN fun _=>Sz.mono (Sz.bind (e:=1) adv_sz fun _=>Sz.mono (Sz.bind (e:=1) (sees_sz F _ _) fun _=>Sz.ite (Sz.mono (h.loop (some t)) (by simp)) (wrong_sz F)) (by omega)) (by omega)) (by omega)
 refine SzN.ite ?_ (SzN.ite h.choice.n (SzN.ite (h.loop none).n (SzN.ite ?_ (SzN.ite ?_ (SzN.ite ?_ (pPlain_sz h hQ).n)))))
 ·exact(Sz.mono (Sz.bind (e:=0) adv_sz fun _=>Sz.mono (Sz.bind (e:=0) (take_sz F _) fun n=>Sz.mono (Sz.bind (e:=1) (must_sz F _ _) fun _=>Sz.mono (Sz.bind (e:=1) h.expr fun e=>pEnd_sz _ _ (by simp only[tm_leaf,km_cons,km_nil,ne_eq,Int.reduceEq,not_false_eq_true];omega)) (by omega)) (by omega)) (by omega)) (by omega)).n
 ·exact(Sz.mono (Sz.bind (e:=0) adv_sz fun _=>Sz.mono (Sz.bind (e:=0) (look_sz F) fun c=>Sz.ite (Sz.mono (Sz.bind (e:=0) (take_sz F _) fun l=>pEnd_sz _ _ (by rw[tm_leaf _ _ _ _ (by split<;>decide),km_nil];omega)) (by omega)) (pEnd_sz _ _ (by rw[tm_leaf _ _ _ _ (by split<;>decide),km_nil];omega))) (by omega)) (by omega)).n
 ·exact(Sz.mono (Sz.bind (e:=0) adv_sz fun _=>Sz.mono (Sz.bind (e:=0) (sees_sz F _ _) fun c=>Sz.ite (pEnd_sz _ _ (by simp only[tm_leaf,km_nil,ne_eq,Int.reduceEq,not_false_eq_true];omega)) (Sz.mono (Sz.bind (e:=0) h.expr fun l=>pEnd_sz _ _ (by simp only[tm_leaf,km_cons,km_nil,ne_eq,Int.reduceEq,not_false_eq_true];omega)) (by omega))) (by omega)) (by omega)).n
 ·exact(Sz.mono (Sz.bind (e:=0) adv_sz fun _=>Sz.mono (Sz.bind (e:=0) h.expr fun l=>pEnd_sz _ _ (by simp only[tm_leaf,km_cons,km_nil,ne_eq,Int.reduceEq,not_false_eq_true];omega)) (by omega)) (by omega)).n
theorem step_sz (hQ:SatR r) (n:Nat):SzR xo bo (step F r n) where
 block:=pBlock_sz h n
 statement:=pStatement_sz h hQ.expr
 choice:=pChoice_sz h
 loop:=pLoop_sz h
 expr:=Sz.mono (Sz.bind (e:=0) h.and' fun e=>Sz.mono (exprL_sz h n e) (by omega)) (by omega)
 and':=Sz.mono (Sz.bind (e:=0) h.not' fun e=>Sz.mono (andL_sz h n e) (by omega)) (by omega)
 not':=Sz.mono (Sz.bind (e:=0) (sees_sz F _ _) fun _=>Sz.ite (Sz.mono (Sz.bind (e:=0) (must_sz F _ _) fun _=>Sz.mono (Sz.bind (e:=1) h.not' fun e=>Sz.pure (by simp only[tm_leaf,km_cons,km_nil,ne_eq,Int.reduceEq,not_false_eq_true];omega)) (by omega)) (by omega))
  (Sz.mono (Sz.bind (e:=0) (h.level 0) fun e=>Sz.mono (Sz.bind (e:=tm xo bo e) (sees_sz F _ _) fun _=>Sz.ite (Sz.mono (pTwo_sz h e 0) (by omega)) (Sz.pure (by omega))) (by omega)) (by omega))) (by omega)
 level k:=by
  show Sz xo bo (tm xo bo) 0 (pLevel F r n k)
  unfold pLevel
  split
  ·exact h.unary
  ·exact Sz.mono (Sz.bind (e:=0) (h.level (k+1)) fun e=>Sz.mono (levelL_sz h k _ n e) (by omega)) (by omega)
 unary:=Sz.mono (Sz.bind (e:=0) (sees_sz F _ _) fun _=>Sz.ite (Sz.mono (Sz.bind (e:=0) (take_sz F _) fun _=>Sz.mono (Sz.bind (e:=1) h.unary fun e=>Sz.pure (by simp only[tm_leaf,km_cons,km_nil,ne_eq,Int.reduceEq,not_false_eq_true];omega)) (by omega)) (by omega))
  (Sz.mono (Sz.bind (e:=0) h.primary fun e=>Sz.mono (unaryL_sz h n e) (by omega)) (by omega))) (by omega)
 primary:=pPrimary_sz h n
end
theorem recs_sz (F:Flt):∀n,SzR xo bo (recs F n)
 | 0=>⟨Sz.out,Sz.out,Sz.out,fun _=>Sz.out,Sz.out,Sz.out,Sz.out,fun _=>Sz.out,Sz.out,Sz.out⟩
 | n+1=>step_sz (recs_sz F n) (recs_sat F n) n
theorem paramsL_sz (F:Flt):∀n ks,Sz xo bo (km xo bo) (km xo bo ks) (paramsL F n ks)
 | 0,_=>Sz.out
 | n+1,ks=>by
  refine Sz.mono (Sz.bind (e:=km xo bo ks) (take_sz F _) fun t=>Sz.mono (Sz.bind (e:=1+km xo bo ks) (skip_sz F _ _) fun _=>Sz.ite (Sz.mono (paramsL_sz F n _) ?_) (Sz.mono (Sz.bind (e:=1+km xo bo ks) (must_sz F _ _) fun _=>Sz.pure ?_) (by omega))) (by omega)) (by omega)
  ·simp only[km_append,km_cons,tm_leaf,km_nil,ne_eq,Int.reduceEq,not_false_eq_true];omega
  ·simp only[km_append,km_cons,tm_leaf,km_nil,ne_eq,Int.reduceEq,not_false_eq_true];omega
theorem pFunction_sz (F:Flt) {r:Rec} (h:SzR xo bo r) (n:Nat):Sz xo bo (tm xo bo) 0 (pFunction F r n):=by
 unfold pFunction
 refine Sz.mono (Sz.bind (e:=0) (take_sz F _) fun t=>Sz.mono (Sz.bind (e:=1) (must_sz F _ _) fun _=>Sz.mono (Sz.bind (q:=km xo bo) (c:=0) (e:=1) ?_ fun ps=>Sz.mono (Sz.bind (e:=km xo bo ps+1) h.block fun b=>Sz.pure ?_) (by omega)) (by omega)) (by omega)) (by omega)
 ·exact Sz.mono (Sz.bind (e:=0) (skip_sz F _ _) fun _=>Sz.ite (Sz.pure (by simp[km_nil])) (Sz.mono (paramsL_sz F n []) (by simp[km_nil]))) (by omega)
 ·simp only[tm_leaf,km_append,km_cons,km_nil,ne_eq,Int.reduceEq,not_false_eq_true];omega
theorem programL_sz (F:Flt) {r:Rec} (h:SzR xo bo r) (q:Nat):∀n ks,Sz xo bo (km xo bo) (km xo bo ks) (programL F r q n ks)
 | 0,_=>Sz.out
 | n+1,ks=>by
  refine Sz.mono (Sz.bind (e:=km xo bo ks) (look_sz F) fun t=>Sz.ite (Sz.pure (by omega)) (Sz.mono (Sz.bind (e:=km xo bo ks) (skip_sz F _ _) fun _=>Sz.ite (Sz.mono (Sz.bind (e:=km xo bo ks) (take_sz F _) fun t=>Sz.mono (Sz.bind (e:=1+km xo bo ks) (must_sz F _ _) fun _=>Sz.mono (programL_sz F h q n _) ?_) (by omega)) (by omega))
   (Sz.mono (Sz.bind (e:=km xo bo ks) (skip_sz F _ _) fun _=>Sz.ite (Sz.mono (Sz.bind (e:=km xo bo ks) (pFunction_sz F h q) fun f=>Sz.mono (programL_sz F h q n _) ?_) (by omega)) (wrong_sz F)) (by omega))) (by omega))) (by omega)
  ·simp only[km_append,km_cons,tm_leaf,km_nil,ne_eq,Int.reduceEq,not_false_eq_true];omega
  ·rw[km_append,km_cons,km_nil];omega
theorem pProgram_sz (F:Flt) (n:Nat):Sz xo bo (tm xo bo) 1 (pProgram F n) :=
 Sz.mono (Sz.bind (e:=1) (programL_sz F (recs_sz F n) n n []) fun ks=>Sz.pure (by simp only[tm_leaf,ne_eq,Int.reduceEq,not_false_eq_true];omega)) (by simp[km_nil])
theorem tsw_zero (xo:Int × Bytes) (ts:TS):tsw xo 0 ts=ts.length:=by
 induction ts with
 | nil=>rfl
 | cons p l ih=>simp only[tsw,ih,wO,ite_self,List.length_cons];omega
theorem nsw_zero (xo:Int × Bytes) (l:List Node):nsw xo 0 l=l.length:=by
 induction l with
 | nil=>rfl
 | cons n l ih=>simp only[nsw,ih,wO,ite_self,List.length_cons];omega
theorem pProgram_len (F:Flt) (n:Nat) (ts:TS) (t:Tree) (ts':TS) (h:pProgram F n ts=some (.ok (t,ts'))):t.row.length+ts'.length≤1+ts.length:=by
 have h1:=pProgram_sz (xo:=(0,[])) (bo:=0) F n ts t ts' h
 rw[tsw_zero,tsw_zero]at h1
 unfold tm at h1
 rwa [nsw_zero]at h1
end Ck
end
section
namespace Ck
theorem lexFrom_count:∀(f:Nat) (s:Bytes) (a:Nat),(lexFrom f s a).1.length≤s.length+1
 | 0,s,a=>by simp[lexFrom]
 | f+1,[],a=>by simp[lexFrom]
 | f+1,c::s,a=>by
  by_cases h1:(c==32||c==9||c==10)=true
  ·rw[lexFrom_blank f c s a h1]
   have:=lexFrom_count f s (a+1)
   simp only[List.length_cons];omega
  ·have h1:(c==32||c==9||c==10)=false:=by simpa using h1
   by_cases h2:(c==35)=true
   ·rw[lexFrom_remark f c s a h2]
    have:=lexFrom_count f ((c::s).drop (run (fun d=>d != 10) (c::s))) (a+run (fun d=>d != 10) (c::s))
    simp only[List.length_drop,List.length_cons]at this ⊢;omega
   ·have h2:(c==35)=false:=by simpa using h2
    cases hn:lexNext (c::s) with
    | error e=>rw[lexFrom_bad f c s a h1 h2 e hn];simp
    | ok p =>
     obtain⟨t,k⟩:=p
     rw[lexFrom_tok f c s a h1 h2 t k hn]
     have:=lexFrom_count f ((c::s).drop k) (a+k)
     have:=lexNext_len _ t k hn
     simp only[List.length_drop,List.length_cons]at *;omega
theorem lexAll_count (s:Bytes):(lexAll s).1.length≤65537:=by
 unfold lexAll
 split
 ·simp
 ·have:=lexFrom_count (s.length+1) s 0;omega
def fuel (s:Bytes):Nat:=(lexAll s).1.length*32+1
theorem annot_len:∀(l:List Tok) (n:Int),(annot l n).length=l.length
 | [],_=>rfl
 | t::l,n=>by simp[annot,annot_len l]
theorem parse_some (s:Bytes):parseWith (fuel s) s≠none:=by
 have:=pProgram_live (lexAll s).2 (annot (lexAll s).1 0) (fuel s) (by rw[annot_len];exact Nat.le_refl _)
 unfold parseWith
 split
 ·contradiction
 ·simp
 ·simp
def parse (s:Bytes):List Node × Flt:=(parseWith (fuel s) s).getD ([],⟨0,0⟩)
theorem parse_eq (s:Bytes):parseWith (fuel s) s=some (parse s):=by
 unfold parse
 cases h:parseWith (fuel s) s with
 | none=>exact absurd h (parse_some s)
 | some r=>rfl
theorem parse_size (s:Bytes) (n:Nat) (l:List Node) (f:Flt) (h:parseWith n s=some (l,f)):l.length≤(lexAll s).1.length+1:=by
 unfold parseWith at h
 split at h
 ·cases h
 ·cases h;simp
 ·rename_i t ts' hp
  cases h
  have:=pProgram_len (lexAll s).2 n _ _ _ hp
  rw[annot_len]at this
  omega
theorem parse_len (s:Bytes):(parse s).1.length≤65538:=by
 have:=parse_size s (fuel s) (parse s).1 (parse s).2 (parse_eq s)
 have:=lexAll_count s
 omega
def loadM (s:Bytes):List Node × Flt :=
 match pProgram (lexAll s).2 (fuel s) (annot (lexAll s).1 0) with
 | some (.ok (T,_))=>if (checkTree T false).code==0 then(T.row,checkTree T false) else([],checkTree T false)
 | some (.error f)=>if f.code==0 then([],⟨72,0⟩) else([],f)
 | none=>([],⟨0,0⟩)
mutual
theorem row_size:∀(T:Tree),T.row.length=T.size
 | .mk n ks=>by simp[Tree.row,Tree.size,rows_sizes ks]
theorem rows_sizes:∀(l:List Tree),(rows l).length=sizes l
 | []=>rfl
 | t::l=>by simp[rows,sizes,row_size t,rows_sizes l]
end
mutual
def Tree.all (P:Node→List Tree→Prop):Tree→Prop
 | .mk n ks=>P n ks∧alls P ks
def alls (P:Node→List Tree→Prop):List Tree→Prop
 | []=>True
 | t::l=>t.all P∧alls P l
end
theorem alls_mem {P:Node→List Tree→Prop} {l:List Tree} (h:alls P l):∀t∈l,t.all P:=by
 induction l with
 | nil=>intro t ht;cases ht
 | cons a l ih =>
  intro t ht
  rcases List.mem_cons.1 ht with rfl|ht
  ·exact h.1
  ·exact ih h.2 t ht
theorem sizes_mem {l:List Tree}:∀t∈l,t.size≤sizes l:=by
 induction l with
 | nil=>intro t ht;cases ht
 | cons a l ih =>
  intro t ht
  rcases List.mem_cons.1 ht with rfl|ht
  ·simp[sizes]
  ·have:=ih t ht;simp[sizes];omega
theorem size_pos (T:Tree):1≤T.size:=by cases T;simp[Tree.size]
mutual
theorem height_le:∀(T:Tree) (h:Nat),T.height h≤h+5*T.size
 | .mk n ks,h=>by
  have hS:=heightS_le ks h
  have hC:=heightC_le ks h
  have hB:=heightB_le ks h h
  have hF:=heightF_le ks h
  unfold Tree.height Tree.size
  repeat' split
  all_goals omega
theorem heightS_le:∀(l:List Tree) (h:Nat),heightS l h≤h+5*sizes l
 | [],h=>by simp[heightS]
 | t::l,h=>by
  have:=height_le t h
  have:=heightS_le l h
  simp only[heightS,sizes];omega
theorem heightC_le:∀(l:List Tree) (h:Nat),heightC l h≤h+5*sizes l
 | [],h=>by simp[heightC]
 | t::l,h=>by
  have:=height_le t h
  have:=heightC_le l (h+1)
  have:=size_pos t
  simp only[heightC,sizes];omega
theorem heightB_le:∀(l:List Tree) (h m:Nat),heightB l h m≤max m (h+5*sizes l)
 | [],h,m=>by simp[heightB,sizes];omega
 | t::l,h,m=>by
  have h1:=height_le t h
  have h2:=heightB_le l (if t.n.kind==6 then h+1 else h) (max m (t.height h))
  have:=size_pos t
  simp only[heightB,sizes]
  generalize heightB l (if t.n.kind==6 then h+1 else h) (max m (t.height h))=y at h2 ⊢
  split at h2<;>omega
theorem heightF_le:∀(l:List Tree) (h:Nat),heightF l h≤h+3+5*sizes l
 | [],h=>by simp[heightF]
 | [t],h=>by
  have:=height_le t (h+3)
  simp only[heightF,sizes];omega
 | [t,u],h=>by
  have:=height_le t (h+1)
  have:=heightF_le [u] h
  simp only[heightF,sizes]at *;omega
 | [t,u,v],h=>by
  have:=height_le t h
  have:=heightF_le [u,v] h
  simp only[heightF,sizes]at *;omega
 | t::u::v::x::l,h=>by
  have:=heightF_le (u::v::x::l) h
  simp only[heightF,sizes]at *;omega
end
theorem bok {α β:Type} {x:Except Flt α} {f:α→Except Flt β} {y:β} (h:(x >>= f)=.ok y):∃a,x=.ok a∧f a=.ok y:=by
 cases x with
 | error e=>cases h
 | ok a=>exact⟨a,rfl,h⟩
structure Bd (s:CS) (i:Nat):Prop where
 sc:∀l∈s.scopes,l.length≤i
 ah:s.ahead.length≤i
theorem Bd.mono {s:CS} {i j:Nat} (h:Bd s i) (hj:i≤j):Bd s j:=⟨fun l hl=>Nat.le_trans (h.sc l hl) hj,Nat.le_trans h.ah hj⟩
theorem Bd.push {s:CS} {i:Nat} (h:Bd s i) (l0:List Bytes) (hl:l0.length≤i):Bd { s with scopes:=l0::s.scopes } i:=⟨fun l hm=>by
 rcases List.mem_cons.1 hm with rfl|hm
 ·exact hl
 ·exact h.sc l hm,h.ah⟩
theorem Bd.pop {s:CS} {i:Nat} (h:Bd s i):Bd { s with scopes:=s.scopes.tail } i:=⟨fun l hm=>h.sc l (List.mem_of_mem_tail hm),h.ah⟩
theorem Bd.loops {s:CS} {i:Nat} (h:Bd s i) (x:List Bytes):Bd { s with loops:=x } i:=⟨h.sc,h.ah⟩
theorem Bd.add {s:CS} {i:Nat} (h:Bd s i) (x:Bytes):Bd (s.add x) (i+1):=by
 refine⟨fun l hm=>?_,Nat.le_succ_of_le h.ah⟩
 rcases List.mem_cons.1 hm with rfl|hm
 ·simp only[List.length_cons,CS.top]
  cases hs:s.scopes with
  | nil=>simp
  | cons a r=>have:=h.sc a (by rw[hs];simp);simp;omega
 ·exact Nat.le_succ_of_le (h.sc l (List.mem_of_mem_tail hm))
def Body (n:Node) (_:List Tree):Prop:=(n.kind==2||n.kind==3)=false
mutual
theorem chk_bd (E:Env):∀(T:Tree) (d k i:Nat) (s s':CS),T.all Body→Bd s i→chk E T d k s=.ok s'→Bd s' (i+T.size)∧s'.loops=s.loops
 | .mk n ks,d,k,i,s,s',hA,hb,h=>by
  unfold chk at h
  obtain⟨_,_,h⟩:=bok h
  have hB:(n.kind==2||n.kind==3)=false:=hA.1
  rw[hB]at h
  rw[if_neg Bool.false_ne_true]at h
  have hsz:(Tree.mk n ks).size=sizes ks+1:=by simp[Tree.size]
  have fin:∀s0,s0=s.add n.text∨s0=s→chks E ks (d+1) 0 s0=.ok s'→Bd s' (i+(Tree.mk n ks).size)∧s'.loops=s.loops:=fun s0 h0 h=>by
   have hb1:Bd s0 (i+1)∧s0.loops=s.loops:=by
    rcases h0 with rfl|rfl
    ·exact⟨hb.add _,rfl⟩
    ·exact⟨hb.mono (by omega),rfl⟩
   obtain⟨b1,l1⟩:=chks_bd E ks (d+1) 0 (i+1) _ s' hA.2 hb1.1 h
   exact⟨b1.mono (by omega),l1.trans hb1.2⟩
  split at h
  ·obtain⟨s1,h1,h⟩:=bok h
   cases h
   obtain⟨b1,l1⟩:=chks_bd E ks (d+1) 0 i _ s1 hA.2 (hb.push [] (by simp)) h1
   exact⟨(b1.pop).mono (by omega),l1⟩
  split at h
  ·obtain⟨_,_,h⟩:=bok h
   obtain⟨s1,h1,h⟩:=bok h
   cases h
   obtain⟨b1,l1⟩:=chks_bd E ks (d+1) 0 i s s1 hA.2 hb h1
   exact⟨(b1.add n.text).mono (by omega),l1⟩
  split at h
  ·obtain⟨_,_,h⟩:=bok h
   obtain⟨_,_,h⟩:=bok h
   obtain⟨b1,l1⟩:=chkW_bd E ks (d+1) n.text i s s' hA.2 hb h
   exact⟨b1.mono (by omega),l1⟩
  split at h
  ·obtain⟨_,_,h⟩:=bok h
   obtain⟨b1,l1⟩:=chkF_bd E ks (d+1) 0 n.text _ (i+1) s s' hA.2 (by omega) (hb.mono (by omega)) h
   exact⟨b1.mono (by omega),l1⟩
  split at h
  ·obtain⟨_,_,h⟩:=bok h
   obtain⟨_,_,h⟩:=bok h
   exact fin _ (.inl rfl) h
  split at h
  ·obtain⟨_,_,h⟩:=bok h
   exact fin _ (.inr rfl) h
  split at h
  ·obtain⟨_,_,h⟩:=bok h
   exact fin _ (.inr rfl) h
  split at h
  ·split at h
   ·obtain⟨_,h1,h⟩:=bok h
    cases h1
   ·obtain⟨_,_,h⟩:=bok h
    exact fin _ (.inr rfl) h
  split at h
  ·obtain⟨_,_,h⟩:=bok h
   exact fin _ (.inr rfl) h
  ·exact fin _ (.inr rfl) h
theorem chks_bd (E:Env):∀(l:List Tree) (d k i:Nat) (s s':CS),alls Body l→Bd s i→chks E l d k s=.ok s'→Bd s' (i+sizes l)∧s'.loops=s.loops
 | [],d,k,i,s,s',hA,hb,h=>by
  unfold chks at h
  cases h
  exact⟨hb.mono (by simp),rfl⟩
 | t::l,d,k,i,s,s',hA,hb,h=>by
  unfold chks at h
  obtain⟨s1,h1,h⟩:=bok h
  obtain⟨b1,l1⟩:=chk_bd E t d k i s s1 hA.1 hb h1
  obtain⟨b2,l2⟩:=chks_bd E l d (k+1) _ s1 s' hA.2 b1 h
  exact⟨by simpa[sizes,Nat.add_assoc]using b2,l2.trans l1⟩
theorem chkW_bd (E:Env):∀(l:List Tree) (d:Nat) (x:Bytes) (i:Nat) (s s':CS),alls Body l→Bd s i→chkW E l d x s=.ok s'→Bd s' (i+sizes l)∧s'.loops=s.loops
 | [],d,x,i,s,s',hA,hb,h=>by
  unfold chkW at h
  cases h
  exact⟨hb.mono (by simp),rfl⟩
 | t::l,d,x,i,s,s',hA,hb,h=>by
  unfold chkW at h
  obtain⟨s1,h1,h⟩:=bok h
  obtain⟨s2,h2,h⟩:=bok h
  cases h
  obtain⟨b1,l1⟩:=chk_bd E t d 0 i s s1 hA.1 hb h1
  obtain⟨b2,l2⟩:=chks_bd E l d 1 _ _ s2 hA.2 (b1.loops (x::s1.loops)) h2
  exact⟨by simpa[sizes,Nat.add_assoc]using b2.loops _,by simp[l2,l1]⟩
theorem chkF_bd (E:Env):∀(l:List Tree) (d k:Nat) (v x:Bytes) (i:Nat) (s s':CS),alls Body l→1≤i→Bd s i→chkF E l d k v x s=.ok s'→Bd s' (i+sizes l)∧s'.loops=s.loops
 | [],d,k,v,x,i,s,s',hA,hi,hb,h=>by
  unfold chkF at h
  cases h
  exact⟨hb.mono (by simp),rfl⟩
 | t::l,d,k,v,x,i,s,s',hA,hi,hb,h=>by
  unfold chkF at h
  split at h
  ·obtain⟨s1,h1,h⟩:=bok h
   cases h
   obtain⟨b1,l1⟩:=chk_bd E t d k i _ s1 hA.1 ((hb.loops (x::s.loops)).push [v] (by simpa using hi)) h1
   exact⟨((b1.pop).loops _).mono (by simp[sizes]<;>omega),by simp[l1]⟩
  ·obtain⟨s1,h1,h⟩:=bok h
   obtain⟨b1,l1⟩:=chk_bd E t d k i s s1 hA.1 hb h1
   obtain⟨b2,l2⟩:=chkF_bd E l d (k+1) v x _ s1 s' hA.2 (by omega) b1 h
   exact⟨by simpa[sizes,Nat.add_assoc]using b2,l2.trans l1⟩
end
end Ck
end
