/- A part of the proof. -/
import Derived.Test.YtoomapkcoibmhaaGreatDoorQ2
set_option maxRecDepth 100000
set_option maxHeartbeats 12800000
set_option linter.all false
section
namespace Ck
def Sat {α:Type} (Q:α→Prop) (p:P α):Prop:=∀ts a ts',p ts=some (.ok (a,ts'))→Q a
section
variable {α β:Type} {Q:α→Prop} {R:β→Prop}
theorem Sat.uD {x:P β} {f:β→P α} (hx:Sat R x) (hf:∀a,R a→Sat Q (f a)):Sat Q (x >>= f):=by
 intro ts a ts' h;obtain⟨b,t1,h1,h2⟩:=bind_ok h
 exact hf b (hx _ _ _ h1) _ _ _ h2
theorem Sat.bind {x:P β} {f:β→P α} (hf:∀a,Sat Q (f a)):Sat Q (x >>= f):=Sat.uD (R:=fun _=>True) (fun _ _ _ _=>trivial) (fun a _=>hf a)
theorem Sat.pure {a:α} (h:Q a):Sat Q (pure a:P α):=by
 intro ts b ts' e;rw[aZ]at e
 simp only[Option.some.injEq,Except.ok.injEq,Prod.mk.injEq]at e;exact e.1 ▸ h
theorem Sat.fail (f:dS):Sat Q (P.fail f:P α):=fun _ _ _ e=>by cases e
theorem Sat.out:Sat Q (P.out:P α):=fun _ _ _ e=>by cases e
theorem Sat.ite {c:Prop} [Decidable c] {x y:P α} (hx:Sat Q x) (hy:Sat Q y):Sat Q (if c then x else y):=by split<;>assumption
theorem Sat.wrong {F:dS}:Sat Q (wrong F:P α):=Sat.bind (fun _=>Sat.fail _)
end
def Idx (t:Tree):Prop:=t.n.kind=24→t.ks.length=2
theorem Idx.leaf {k a:Int} {x:Bytes} {l:List Tree} (h:k≠24):Idx (leaf k a x l):=fun e=>absurd e h
structure R6 (r:Rec):Prop where
 expr:Sat Idx r.expr
 and':Sat Idx r.and'
 not':Sat Idx r.not'
 level:∀k,Sat Idx (r.level k)
 unary:Sat Idx r.unary
 primary:Sat Idx r.primary
section
variable {F:dS} {r:Rec} (h:R6 r)
theorem Ef:∀n e,Idx e→Sat Idx (vF F r n e)
 | 0,_,_=>Sat.out
 | n+1,e,he=>Sat.bind fun _=>Sat.ite (Sat.bind fun _=>Sat.bind fun _=>Ef n _ (Idx.leaf (by decide))) (Sat.pure he)
theorem H6:∀n e,Idx e→Sat Idx (ED F r n e)
 | 0,_,_=>Sat.out
 | n+1,e,he=>Sat.bind fun _=>Sat.ite (Sat.bind fun _=>Sat.bind fun _=>H6 n _ (Idx.leaf (by decide))) (Sat.pure he)
theorem H7 (e:Tree) (k:Nat):Sat Idx (zF F r e k):=Sat.bind fun _=>Sat.bind fun _=>Sat.pure (Idx.leaf (by decide))
theorem Bo (k:Nat) (l:List Bytes):∀n e,Idx e→Sat Idx (qN F r k l n e)
 | 0,_,_=>Sat.out
 | n+1,e,he=>Sat.bind fun _=>Sat.ite (Sat.uD (H7 e (k+1)) fun e' he'=>Bo k l n e' he') (Sat.pure he)
theorem Bp:∀n e,Idx e→Sat Idx (qO F r n e)
 | 0,_,_=>Sat.out
 | n+1,e,he=>Sat.bind fun _=>Sat.ite (Sat.bind fun _=>Sat.bind fun _=>Sat.bind fun _=>Bp n _ (fun _=>rfl)) (Sat.pure he)
include h in
theorem PW (n:Nat):R6 (step F r n) where
 expr:=Sat.uD h.and' fun e he=>Ef n e he
 and':=Sat.uD h.not' fun e he=>H6 n e he
 not':=Sat.bind fun _=>Sat.ite (Sat.bind fun _=>Sat.bind fun _=>Sat.pure (Idx.leaf (by decide))) (Sat.uD (h.level 0) fun e he=>Sat.bind fun _=>Sat.ite (H7 e 0) (Sat.pure he))
 level k:=by
  show Sat Idx (lN F r n k);unfold lN;split
  ·exact h.unary
  ·exact Sat.uD (h.level (k+1)) fun e he=>Bo k _ n e he
 unary:=Sat.bind fun _=>Sat.ite (Sat.bind fun _=>Sat.bind fun _=>Sat.pure (Idx.leaf (by decide))) (Sat.uD h.primary fun e he=>Bp n e he)
 primary:=by
  show Sat Idx (jS F r n);refine Sat.bind fun t=>?_
  refine Sat.ite (Sat.bind fun _=>Sat.pure (fun e=>absurd e (by decide:(26:Int)≠24))) ?_;refine Sat.ite (Sat.bind fun _=>Sat.pure (fun e=>absurd e (by decide:(27:Int)≠24))) ?_;refine Sat.ite (Sat.bind fun _=>Sat.pure (Idx.leaf (by decide))) ?_;refine Sat.ite ?_ ?_
  ·split
   ·rename_i k hk;refine Sat.bind fun _=>Sat.pure (Idx.leaf ?_)
    unfold gY at hk;split at hk
    ·cases hk;decide
    ·split at hk
     ·cases hk;decide
     ·split at hk
      ·cases hk;decide
      ·cases hk
   ·exact Sat.wrong
  refine Sat.ite (Sat.bind fun _=>Sat.bind fun _=>Sat.ite (Sat.bind fun _=>Sat.ite (Sat.pure (Idx.leaf (by decide))) (Sat.bind fun _=>Sat.pure (Idx.leaf (by decide)))) (Sat.pure (Idx.leaf (by decide)))) ?_;exact Sat.ite (Sat.bind fun _=>Sat.ite (Sat.uD h.expr fun e he=>Sat.bind fun _=>Sat.pure he) Sat.wrong) Sat.wrong
end
theorem zY (F:dS):∀n,R6 (recs F n)
 | 0=>⟨Sat.out,Sat.out,Sat.out,fun _=>Sat.out,Sat.out,Sat.out⟩
 | n+1=>PW (zY F n) n
def wO (xo:Int × Bytes) (bo:Nat) (k:Int) (a:Int) (t:Bytes) (c:Int):Nat:=if k==c&&(a,t)==xo then bo else 0
def Kv (xo:Int × Bytes) (bo:Nat):TS→Nat
 | []=>0
 | p::l=>1+wO xo bo p.1.kind p.1.at' p.1.text 3+Kv xo bo l
def PX (xo:Int × Bytes) (bo:Nat):List Node→Nat
 | []=>0
 | n::l=>1+wO xo bo n.kind n.at' n.text 21+PX xo bo l
variable {xo:Int × Bytes} {bo:Nat}
theorem Kw (l l':List Node):PX xo bo (l++l')=PX xo bo l+PX xo bo l':=by
 induction l with
 | nil=>simp[PX]
 | cons n l ih=>simp only[List.cons_append,PX,ih];omega
theorem PY (ts:TS):Kv xo bo ts.tail≤Kv xo bo ts:=by
 cases ts with
 | nil=>exact Nat.le_refl _
 | cons p l=>simp only[List.tail,Kv];omega
theorem PZ {k a c:Int} {t:Bytes} (h:k≠c):wO xo bo k a t c=0:=by
 unfold wO;rw[if_neg];simp[h]
def Sz {α:Type} (xo:Int × Bytes) (bo:Nat) (m:α→Nat) (c:Nat) (p:P α):Prop:=∀ts a ts',p ts=some (.ok (a,ts'))→m a+Kv xo bo ts'≤c+Kv xo bo ts
def rQ {α:Type} (xo:Int × Bytes) (bo:Nat) (m:α→Nat) (c:Nat) (p:P α):Prop:=∀ts a ts',ts≠[]→p ts=some (.ok (a,ts'))→m a+Kv xo bo ts'≤c+Kv xo bo ts
section
variable {α β:Type} {m:α→Nat} {q:β→Nat} {c e:Nat}
theorem Sz.n {p:P α} (h:Sz xo bo m c p):rQ xo bo m c p:=fun ts a ts' _ he=>h ts a ts' he
theorem Sz.bind {x:P β} {f:β→P α} (hx:Sz xo bo q c x) (hf:∀a,Sz xo bo m (q a+e) (f a)):Sz xo bo m (c+e) (x >>= f):=by
 intro ts b ts' h;obtain⟨a,t1,h1,h2⟩:=bind_ok h
 have:=hx _ _ _ h1
 have:=hf a _ _ _ h2
 omega
theorem Sz.uD {Q:β→Prop} {x:P β} {f:β→P α} (hx:Sz xo bo q c x) (hQ:Sat Q x) (hf:∀a,Q a→Sz xo bo m (q a+e) (f a)):Sz xo bo m (c+e) (x >>= f):=by
 intro ts b ts' h;obtain⟨a,t1,h1,h2⟩:=bind_ok h
 have:=hx _ _ _ h1
 have:=hf a (hQ _ _ _ h1) _ _ _ h2
 omega
theorem rQ.bind {x:P β} {f:β→P α} (hx:rQ xo bo q c x) (hf:∀a,Sz xo bo m (q a+e) (f a)):rQ xo bo m (c+e) (x >>= f):=by
 intro ts b ts' hn h;obtain⟨a,t1,h1,h2⟩:=bind_ok h
 have:=hx _ _ _ hn h1
 have:=hf a _ _ _ h2
 omega
theorem Sz.mono {p:P α} {c':Nat} (h:Sz xo bo m c p) (hc:c≤c'):Sz xo bo m c' p:=fun ts a ts' he=>by have:=h ts a ts' he;omega
theorem rQ.mono {p:P α} {c':Nat} (h:rQ xo bo m c p) (hc:c≤c'):rQ xo bo m c' p:=fun ts a ts' hn he=>by have:=h ts a ts' hn he;omega
theorem Sz.pure {a:α} (h:m a≤c):Sz xo bo m c (pure a:P α):=by
 intro ts b ts' e;rw[aZ]at e
 simp only[Option.some.injEq,Except.ok.injEq,Prod.mk.injEq]at e;obtain⟨rfl,rfl⟩:=e
 omega
theorem Sz.fail (f:dS):Sz xo bo m c (P.fail f:P α):=fun _ _ _ e=>by cases e
theorem Sz.out:Sz xo bo m c (P.out:P α):=fun _ _ _ e=>by cases e
theorem Sz.ite {g:Prop} [Decidable g] {x y:P α} (hx:Sz xo bo m c x) (hy:Sz xo bo m c y):Sz xo bo m c (if g then x else y):=by split<;>assumption
theorem rQ.ite {g:Prop} [Decidable g] {x y:P α} (hx:rQ xo bo m c x) (hy:rQ xo bo m c y):rQ xo bo m c (if g then x else y):=by split<;>assumption
end
section
variable (F:dS)
theorem FL:Sz xo bo (fun _=>0) 0 (look F):=fun ts a ts' h=>by
 obtain⟨o,r,e1,e2⟩:=jk F h
 rw[e2];exact Nat.le_of_eq rfl
theorem Ky (ts:TS) (a:Tok) (ts':TS) (h:og F ts=some (.ok (a,ts'))):ts'=ts:=by
 unfold og at h;split at h
 ·cases h;rfl
 ·cases h
theorem lC (k:Int) (l:List Bytes):Sz xo bo (fun _=>0) 0 (sees F k l):=fun ts a ts' h=>by
 obtain⟨t,t1,h1,h2⟩:=bind_ok h
 obtain⟨o,r,e1,e2⟩:=jk F h1
 rw[aZ]at h2
 cases h2;rw[e2];exact Nat.le_of_eq rfl
theorem xO:Sz xo bo (fun _=>0) 0 oU:=fun ts a ts' h=>by
 cases h
 have:=PY (xo:=xo) (bo:=bo) ts
 simp only[Nat.zero_add];omega
theorem FM:rQ xo bo (fun _=>1) 0 oU:=fun ts a ts' hn h=>by
 cases ts with
 | nil=>exact absurd rfl hn
 | cons p l=>cases h;simp only[List.tail,Kv];omega
theorem afx (k:Int) (ts:TS) (a:Tok) (ts':TS) (h:take F k ts=some (.ok (a,ts'))):a.kind=k∧1+wO xo bo a.kind a.at' a.text 3+Kv xo bo ts'≤Kv xo bo ts:=by
 obtain⟨t,t1,h1,h2⟩:=bind_ok h
 obtain⟨o,r,e1,e2⟩:=jk F h1
 subst e1 e2;split at h2
 ·rename_i hk;obtain⟨_,t3,h5,h6⟩:=bind_ok h2
  rw[aZ]at h6
  cases h5;cases h6;exact⟨beq_iff_eq.1 hk,by simp only[List.tail,Kv];omega⟩
 ·obtain⟨t',t1',h1',h2'⟩:=bind_ok h2
  cases h2'
theorem pR (k:Int):Sz xo bo (fun _=>1) 0 (take F k):=fun ts a ts' h=>by have:=(afx (xo:=xo) (bo:=bo) F k ts a ts' h).2;simp only;omega
theorem kC (k:Int) (t:Bytes):Sz xo bo (fun _=>0) 0 (skip F k t):=fun ts a ts' h=>by
 obtain⟨b,t1,h1,h2⟩:=bind_ok h
 have h3:=lC (xo:=xo) (bo:=bo) F k [t] _ _ _ h1;split at h2
 ·obtain⟨_,t3,h5,h6⟩:=bind_ok h2
  have h7:=xO (xo:=xo) (bo:=bo) _ _ _ h5;cases h6;simp only at h3 h7 ⊢;omega
 ·cases h2;exact h3
theorem iC (k:Int) (t:Bytes):Sz xo bo (fun _=>1) 0 (must F k t):=fun ts a ts' h=>by
 obtain⟨t,t1,h1,h2⟩:=bind_ok h
 obtain⟨o,r,e1,e2⟩:=jk F h1
 subst e1 e2;obtain⟨b,t2,h3,h4⟩:=bind_ok h2
 split at h4
 ·rename_i hb;subst hb;obtain⟨p,hp⟩:=nY F h3
  cases h4;rw[hp];simp only[Kv];omega
 ·obtain⟨t',t1',h1',h2'⟩:=bind_ok h4
  cases h2'
theorem sM {α:Type} {m:α→Nat} {c:Nat}:Sz xo bo m c (wrong F:P α):=by
 have:Sz xo bo m (0+c) (wrong F:P α):=Sz.bind (FL F) (fun _=>Sz.fail _)
 simpa using this
theorem Sz.pK {α:Type} {m:α→Nat} {c:Nat} {f:Tok→P α} (h:∀t,rQ xo bo m c (f t)):Sz xo bo m c (look F >>= f):=by
 intro ts a ts' he;obtain⟨t,t1,h1,h2⟩:=bind_ok he
 obtain⟨o,r,e1,e2⟩:=jk F h1
 subst e2;exact h t _ _ _ (by rw[e1];simp) h2
theorem rQ.keep {α β:Type} {m:α→Nat} {c:Nat} {x:P β} {f:β→P α} (hx:∀ts a ts',x ts=some (.ok (a,ts'))→ts'=ts) (hf:∀a,rQ xo bo m c (f a)):rQ xo bo m c (x >>= f):=by
 intro ts a ts' hn he;obtain⟨b,t1,h1,h2⟩:=bind_ok he
 obtain rfl:=hx _ _ _ h1;exact hf b _ _ _ hn h2
end
def tm (xo:Int × Bytes) (bo:Nat) (t:Tree):Nat:=PX xo bo t.row
def km (xo:Int × Bytes) (bo:Nat) (l:List Tree):Nat:=PX xo bo (rows l)
theorem bV:km xo bo []=0:=rfl
theorem bG (t:Tree) (l:List Tree):km xo bo (t::l)=tm xo bo t+km xo bo l:=by simp only[km,tm,rows,Kw]
theorem jL (a b:List Tree):km xo bo (a++b)=km xo bo a+km xo bo b:=by
 induction a with
 | nil=>simp[bV]
 | cons t l ih=>rw[List.cons_append,bG,bG,ih];omega
theorem H8 (n:Node) (l:List Tree):tm xo bo (.mk n l)=1+wO xo bo n.kind n.at' n.text 21+km xo bo l:=by simp only[tm,km,Tree.row,PX]
theorem WC (a:Int) (t:Bytes) (l:List Tree):tm xo bo (leaf 21 a t l)=1+wO xo bo 21 a t 21+km xo bo l:=H8 _ _
theorem dn (k a:Int) (t:Bytes) (l:List Tree) (hk:k≠21):tm xo bo (leaf k a t l)=1+km xo bo l:=by
 unfold leaf;rw[H8,PZ hk]
theorem WE (t:Tree):1+km xo bo t.ks≤tm xo bo t:=by cases t;rw[H8];simp only[Tree.ks];omega
theorem zf {t:Bytes} {k:Int} (h:gY t=some k):k≠21:=by
 unfold gY at h
 repeat' split at h
 all_goals cases h
 all_goals decide
structure WG (xo:Int × Bytes) (bo:Nat) (r:Rec):Prop where
 block:Sz xo bo (tm xo bo) 0 r.block
 statement:Sz xo bo (tm xo bo) 0 r.statement
 choice:Sz xo bo (tm xo bo) 0 r.choice
 loop:∀l,Sz xo bo (tm xo bo) (match l with|some _=>1|none=>0) (r.loop l)
 expr:Sz xo bo (tm xo bo) 0 r.expr
 and':Sz xo bo (tm xo bo) 0 r.and'
 not':Sz xo bo (tm xo bo) 0 r.not'
 level:∀k,Sz xo bo (tm xo bo) 0 (r.level k)
 unary:Sz xo bo (tm xo bo) 0 r.unary
 primary:Sz xo bo (tm xo bo) 0 r.primary
section
variable {F:dS} {r:Rec} (h:WG xo bo r)
include h
theorem Eh:∀n ks,Sz xo bo (km xo bo) (km xo bo ks) (rU F r n ks)
 | 0,_=>Sz.out
 | n+1,ks=>by
  refine Sz.mono (Sz.bind (e:=km xo bo ks) (kC F 3 [125]) fun _=>Sz.ite (Sz.pure (by omega)) (Sz.mono (Sz.bind (e:=km xo bo ks) h.statement fun s=>Sz.mono (Eh n _) ?_) (by omega))) (by omega);rw[jL,bG,bV];omega
theorem Nl (n:Nat):Sz xo bo (tm xo bo) 0 (uI F r n) :=
 Sz.mono (Sz.bind (e:=0) (iC F 3 [123]) fun _=>Sz.mono (Sz.bind (e:=1) (Eh h n []) fun ks=>Sz.pure (by simp only[dn,ne_eq,Int.reduceEq,not_false_eq_true];omega)) (by simp[bV])) (by omega)
theorem Ia:∀n e,Sz xo bo (tm xo bo) (tm xo bo e) (vF F r n e)
 | 0,_=>Sz.out
 | n+1,e=>by
  refine Sz.mono (Sz.bind (e:=tm xo bo e) (lC F _ _) fun _=>Sz.ite (Sz.mono (Sz.bind (e:=tm xo bo e) (iC F _ _) fun _=>Sz.mono (Sz.bind (e:=1+tm xo bo e) h.and' fun g=>Sz.mono (Ia n _) ?_) (by omega)) (by omega)) (Sz.pure (by omega))) (by omega);simp only[dn,bG,bG,bV,ne_eq,Int.reduceEq,not_false_eq_true];omega
theorem LW:∀n e,Sz xo bo (tm xo bo) (tm xo bo e) (ED F r n e)
 | 0,_=>Sz.out
 | n+1,e=>by
  refine Sz.mono (Sz.bind (e:=tm xo bo e) (lC F _ _) fun _=>Sz.ite (Sz.mono (Sz.bind (e:=tm xo bo e) (iC F _ _) fun _=>Sz.mono (Sz.bind (e:=1+tm xo bo e) h.not' fun g=>Sz.mono (LW n _) ?_) (by omega)) (by omega)) (Sz.pure (by omega))) (by omega);simp only[dn,bG,bG,bV,ne_eq,Int.reduceEq,not_false_eq_true];omega
theorem LX (e:Tree) (k:Nat):Sz xo bo (tm xo bo) (tm xo bo e) (zF F r e k):=by
 intro ts a ts' he;obtain⟨t,t1,h1,h2⟩:=bind_ok he
 obtain⟨f,t2,h3,h4⟩:=bind_ok h2
 obtain⟨hk,ht⟩:=afx (xo:=xo) (bo:=bo) F 3 _ _ _ h1
 have:=h.level k _ _ _ h3
 rw[aZ]at h4
 cases h4;rw[WC,bG,bG,bV];rw[hk]at ht
 have e:wO xo bo 3 t.at' t.text 3=wO xo bo 21 t.at' t.text 21:=rfl;omega
theorem Ei (k:Nat) (l:List Bytes):∀n e,Sz xo bo (tm xo bo) (tm xo bo e) (qN F r k l n e)
 | 0,_=>Sz.out
 | n+1,e=>Sz.mono (Sz.bind (e:=tm xo bo e) (lC F _ _) fun _=>Sz.ite (Sz.mono (Sz.bind (e:=0) (LX h e (k+1)) fun g=>Sz.mono (Ei k l n g) (by omega)) (by omega)) (Sz.pure (by omega))) (by omega)
theorem Ej:∀n e,Sz xo bo (tm xo bo) (tm xo bo e) (qO F r n e)
 | 0,_=>Sz.out
 | n+1,e=>by
  refine Sz.mono (Sz.bind (e:=tm xo bo e) (lC F _ _) fun _=>Sz.ite (Sz.mono (Sz.bind (e:=tm xo bo e) (iC F _ _) fun _=>Sz.mono (Sz.bind (e:=1+tm xo bo e) h.expr fun g=>Sz.mono (Sz.bind (e:=tm xo bo g+(1+tm xo bo e)) (iC F _ _) fun _=>Sz.mono (Ej n _) ?_) (by omega)) (by omega)) (by omega)) (Sz.pure (by omega))) (by omega);simp only[dn,bG,bG,bV,ne_eq,Int.reduceEq,not_false_eq_true];omega
theorem Ib:∀n ks,Sz xo bo (km xo bo) (km xo bo ks) (vG F r n ks)
 | 0,_=>Sz.out
 | n+1,ks=>by
  refine Sz.mono (Sz.bind (e:=km xo bo ks) h.expr fun g=>Sz.mono (Sz.bind (e:=tm xo bo g+km xo bo ks) (kC F _ _) fun _=>Sz.ite (Sz.mono (Ib n _) ?_) (Sz.mono (Sz.bind (e:=tm xo bo g+km xo bo ks) (iC F _ _) fun _=>Sz.pure ?_) (by omega))) (by omega)) (by omega)
  ·rw[jL,bG,bV];omega
  ·rw[jL,bG,bV];omega
omit h in
theorem nT (t:Tree) (c:Nat) (hc:tm xo bo t≤c+1):Sz xo bo (tm xo bo) c (mO F t) :=
 Sz.mono (Sz.bind (e:=c) (iC F 3 _) fun _=>Sz.pure (by omega)) (by omega)
theorem El (hQ:Sat Idx r.expr):Sz xo bo (tm xo bo) 0 (mX F r):=by
 refine Sz.mono (Sz.uD (e:=0) h.expr hQ fun e he=>?_) (by omega);have hE:Sz xo bo (tm xo bo) (tm xo bo e+0) (mO F (leaf 17 e.n.at' [] [e])):=nT _ _ (by simp only[dn,bG,bV,ne_eq,Int.reduceEq,not_false_eq_true];omega);have hte:=WE (xo:=xo) (bo:=bo) e;cases Gh:e.n.kind==25
 ·cases Cu:e.n.kind==24
  ·simp only[Gh,Cu,Bool.or_self,Bool.false_eq_true,if_false];exact hE
  ·simp only[Gh,Cu,Bool.or_true,Bool.false_eq_true,if_true,if_false]
   obtain⟨k0,k1,hks⟩:∃k0 k1,e.ks=[k0,k1]:=by
    have hl:=he (by simpa using Cu)
    match e.ks,hl with
    | [k0,k1],_=>exact⟨k0,k1,rfl⟩
   rw[hks,bG,bG,bV]at hte
   refine Sz.mono (Sz.bind (e:=tm xo bo e) (kC F _ _) fun _=>Sz.ite (Sz.mono (Sz.bind (e:=tm xo bo e) h.expr fun v=>nT _ _ ?_) (by omega)) (Sz.mono hE (by omega))) (by omega);simp only[hks,dn,ne_eq,Int.reduceEq,not_false_eq_true];simp only[List.getD_cons_zero,List.getD_cons_succ,bG,bV];omega
 ·simp only[Gh,Bool.true_or,if_true];refine Sz.mono (Sz.bind (e:=tm xo bo e) (kC F _ _) fun _=>Sz.ite (Sz.mono (Sz.bind (e:=tm xo bo e) h.expr fun v=>nT _ _ ?_) (by omega)) (Sz.mono hE (by omega))) (by omega);simp only[dn,bG,bV,ne_eq,Int.reduceEq,not_false_eq_true];omega
theorem Kz:Sz xo bo (tm xo bo) 0 (qM F r):=by
 refine Sz.mono (Sz.bind (e:=0) (iC F _ _) fun _=>Sz.mono (Sz.bind (e:=1) h.expr fun e=>Sz.mono (Sz.bind (e:=tm xo bo e+1) h.block fun b=>Sz.mono (Sz.bind (e:=tm xo bo b+(tm xo bo e+1)) (kC F _ _) fun _=>Sz.ite ?_ (Sz.pure ?_)) (by omega)) (by omega)) (by omega)) (by omega)
 ·refine Sz.mono (Sz.bind (e:=tm xo bo b+(tm xo bo e+1)) (lC F _ _) fun _=>Sz.ite (Sz.mono (Sz.bind (e:=tm xo bo b+(tm xo bo e+1)) h.choice fun c=>Sz.pure ?_) (by omega)) (Sz.mono (Sz.bind (e:=tm xo bo b+(tm xo bo e+1)) h.block fun c=>Sz.pure ?_) (by omega))) (by omega)
  ·simp only[dn,bG,bG,bG,bV,ne_eq,Int.reduceEq,not_false_eq_true];omega
  ·simp only[dn,bG,bG,bG,bV,ne_eq,Int.reduceEq,not_false_eq_true];omega
 ·simp only[dn,bG,bG,bV,ne_eq,Int.reduceEq,not_false_eq_true];omega
theorem P6 (l:Option Tok):Sz xo bo (tm xo bo) (match l with|some _=>1|none=>0) (zD F r l):=by
 have key:∀c lt (ll:List Tree),km xo bo ll≤c→Sz xo bo (tm xo bo) c (do
   let t ←take F 2
   if t.text==[119,104,105,108,101] then
    let e ←r.expr
    let b ←r.block
    pure (leaf 10 t.at' lt [e,b])
   else
    let v ←take F 1
    let _ ←must F 2 [105,110]
    let e ←r.expr
    let _ ←must F 3 [46,46]
    let g ←r.expr
    let b ←r.block
    pure (leaf 11 t.at' v.text (ll++[e,g,b]))):=by
  intro c lt ll hc;refine Sz.mono (Sz.bind (e:=c) (pR F _) fun t=>Sz.ite (Sz.mono (Sz.bind (e:=1+c) h.expr fun e=>Sz.mono (Sz.bind (e:=tm xo bo e+(1+c)) h.block fun b=>Sz.pure ?_) (by omega)) (by omega)) (Sz.mono (Sz.bind (e:=1+c) (pR F _) fun v=>Sz.mono (Sz.bind (e:=1+c) (iC F _ _) fun _=>Sz.mono (Sz.bind (e:=1+c) h.expr fun e=>Sz.mono (Sz.bind (e:=tm xo bo e+(1+c)) (iC F _ _) fun _=>Sz.mono (Sz.bind (e:=tm xo bo e+(1+c)) h.expr fun g=>Sz.mono (Sz.bind (e:=tm xo bo g+(tm xo bo e+(1+c))) h.block fun b=>Sz.pure ?_) (by omega)) (by omega)) (by omega)) (by omega)) (by omega)) (by omega))) (by omega)
  ·simp only[dn,bG,bG,bV,ne_eq,Int.reduceEq,not_false_eq_true];omega
  ·simp only[dn,jL,bG,bG,bG,bV,ne_eq,Int.reduceEq,not_false_eq_true];omega
 cases l with
 | none=>exact key 0 [] [] (by simp[bV])
 | some l=>exact key 1 l.text [leaf 12 l.at' l.text []] (by simp only[bG,dn,bV,ne_eq,Int.reduceEq,not_false_eq_true];omega)
theorem Ic (n:Nat):Sz xo bo (tm xo bo) 0 (jS F r n):=by
 unfold jS;refine Sz.pK F fun t=>?_
 have LY:∀T:Tree,tm xo bo T≤1→rQ xo bo (tm xo bo) 0 (oU >>= fun _=>(pure T:P Tree)):=fun T hT=>rQ.mono (rQ.bind (e:=0) FM fun _=>Sz.pure (by omega)) (by omega)
 refine rQ.ite (LY _ (by rw[H8,PZ (by simp),bV];omega)) ?_;refine rQ.ite (LY _ (by rw[H8,PZ (by simp),bV];omega)) ?_;refine rQ.ite (LY _ (by simp only[dn,bV,ne_eq,Int.reduceEq,not_false_eq_true];omega)) ?_;refine rQ.ite ?_ ?_
 ·split
  ·rename_i hk;exact LY _ (by rw[dn _ _ _ _ (zf hk),bV];omega)
  ·exact(sM F).n
 refine rQ.ite ?_ ?_
 ·refine rQ.mono (rQ.bind (e:=0) FM fun _=>Sz.mono (Sz.bind (e:=1) (kC F _ _) fun _=>Sz.ite (Sz.mono (Sz.bind (e:=1) (kC F _ _) fun _=>Sz.ite (Sz.pure (by simp only[dn,bV,ne_eq,Int.reduceEq,not_false_eq_true];omega)) (Sz.mono (Sz.bind (e:=1) (Ib h n []) fun ks=>Sz.pure (by simp only[dn,ne_eq,Int.reduceEq,not_false_eq_true];omega)) (by simp[bV]))) (by omega)) (Sz.pure (by simp only[dn,bV,ne_eq,Int.reduceEq,not_false_eq_true];omega))) (by omega)) (by omega)
 refine rQ.ite ?_ (sM F).n;exact(Sz.mono (Sz.bind (e:=0) (kC F _ _) fun _=>Sz.ite (Sz.mono (Sz.bind (e:=0) h.expr fun e=>Sz.mono (Sz.bind (e:=tm xo bo e) (iC F _ _) fun _=>Sz.pure (by omega)) (by omega)) (by omega)) (sM F)) (by omega)).n
theorem Dk (hQ:Sat Idx r.expr):Sz xo bo (tm xo bo) 0 (iP F r):=by
 unfold iP;refine Sz.pK F fun t=>?_
 refine rQ.keep ?_ fun c=>?_
 ·intro ts a ts' he;split at he
  ·obtain⟨d,t1,h1,h2⟩:=bind_ok he
   rw[aZ]at h2
   cases h2;exact Ky F _ _ _ h1
  ·rw[aZ]at he
   cases he;rfl
 refine rQ.ite ?_ (rQ.ite ?_ (El h hQ).n)
 ·exact rQ.mono (rQ.bind (e:=0) FM fun _=>Sz.mono (Sz.bind (e:=1) xO fun _=>Sz.mono (Sz.bind (e:=1) (lC F _ _) fun _=>Sz.ite (Sz.mono (h.loop (some t)) (by simp)) (sM F)) (by omega)) (by omega)) (by omega)
 refine rQ.ite ?_ (rQ.ite h.choice.n (rQ.ite (h.loop none).n (rQ.ite ?_ (rQ.ite ?_ (rQ.ite ?_ (El h hQ).n)))))
 ·exact(Sz.mono (Sz.bind (e:=0) xO fun _=>Sz.mono (Sz.bind (e:=0) (pR F _) fun n=>Sz.mono (Sz.bind (e:=1) (iC F _ _) fun _=>Sz.mono (Sz.bind (e:=1) h.expr fun e=>nT _ _ (by simp only[dn,bG,bV,ne_eq,Int.reduceEq,not_false_eq_true];omega)) (by omega)) (by omega)) (by omega)) (by omega)).n
 ·exact(Sz.mono (Sz.bind (e:=0) xO fun _=>Sz.mono (Sz.bind (e:=0) (FL F) fun c=>Sz.ite (Sz.mono (Sz.bind (e:=0) (pR F _) fun l=>nT _ _ (by rw[dn _ _ _ _ (by split<;>decide),bV];omega)) (by omega)) (nT _ _ (by rw[dn _ _ _ _ (by split<;>decide),bV];omega))) (by omega)) (by omega)).n
 ·exact(Sz.mono (Sz.bind (e:=0) xO fun _=>Sz.mono (Sz.bind (e:=0) (lC F _ _) fun c=>Sz.ite (nT _ _ (by simp only[dn,bV,ne_eq,Int.reduceEq,not_false_eq_true];omega)) (Sz.mono (Sz.bind (e:=0) h.expr fun l=>nT _ _ (by simp only[dn,bG,bV,ne_eq,Int.reduceEq,not_false_eq_true];omega)) (by omega))) (by omega)) (by omega)).n
 ·exact(Sz.mono (Sz.bind (e:=0) xO fun _=>Sz.mono (Sz.bind (e:=0) h.expr fun l=>nT _ _ (by simp only[dn,bG,bV,ne_eq,Int.reduceEq,not_false_eq_true];omega)) (by omega)) (by omega)).n
theorem R7 (hQ:R6 r) (n:Nat):WG xo bo (step F r n) where
 block:=Nl h n
 statement:=Dk h hQ.expr
 choice:=Kz h
 loop:=P6 h
 expr:=Sz.mono (Sz.bind (e:=0) h.and' fun e=>Sz.mono (Ia h n e) (by omega)) (by omega)
 and':=Sz.mono (Sz.bind (e:=0) h.not' fun e=>Sz.mono (LW h n e) (by omega)) (by omega)
 not':=Sz.mono (Sz.bind (e:=0) (lC F _ _) fun _=>Sz.ite (Sz.mono (Sz.bind (e:=0) (iC F _ _) fun _=>Sz.mono (Sz.bind (e:=1) h.not' fun e=>Sz.pure (by simp only[dn,bG,bV,ne_eq,Int.reduceEq,not_false_eq_true];omega)) (by omega)) (by omega))
  (Sz.mono (Sz.bind (e:=0) (h.level 0) fun e=>Sz.mono (Sz.bind (e:=tm xo bo e) (lC F _ _) fun _=>Sz.ite (Sz.mono (LX h e 0) (by omega)) (Sz.pure (by omega))) (by omega)) (by omega))) (by omega)
 level k:=by
  show Sz xo bo (tm xo bo) 0 (lN F r n k);unfold lN;split
  ·exact h.unary
  ·exact Sz.mono (Sz.bind (e:=0) (h.level (k+1)) fun e=>Sz.mono (Ei h k _ n e) (by omega)) (by omega)
 unary:=Sz.mono (Sz.bind (e:=0) (lC F _ _) fun _=>Sz.ite (Sz.mono (Sz.bind (e:=0) (pR F _) fun _=>Sz.mono (Sz.bind (e:=1) h.unary fun e=>Sz.pure (by simp only[dn,bG,bV,ne_eq,Int.reduceEq,not_false_eq_true];omega)) (by omega)) (by omega))
  (Sz.mono (Sz.bind (e:=0) h.primary fun e=>Sz.mono (Ej h n e) (by omega)) (by omega))) (by omega)
 primary:=Ic h n
end
theorem LZ (F:dS):∀n,WG xo bo (recs F n)
 | 0=>⟨Sz.out,Sz.out,Sz.out,fun _=>Sz.out,Sz.out,Sz.out,Sz.out,fun _=>Sz.out,Sz.out,Sz.out⟩
 | n+1=>R7 (LZ F n) (zY F n) n
theorem Bq (F:dS):∀n ks,Sz xo bo (km xo bo) (km xo bo ks) (nJ F n ks)
 | 0,_=>Sz.out
 | n+1,ks=>by
  refine Sz.mono (Sz.bind (e:=km xo bo ks) (pR F _) fun t=>Sz.mono (Sz.bind (e:=1+km xo bo ks) (kC F _ _) fun _=>Sz.ite (Sz.mono (Bq F n _) ?_) (Sz.mono (Sz.bind (e:=1+km xo bo ks) (iC F _ _) fun _=>Sz.pure ?_) (by omega))) (by omega)) (by omega)
  ·simp only[jL,bG,dn,bV,ne_eq,Int.reduceEq,not_false_eq_true];omega
  ·simp only[jL,bG,dn,bV,ne_eq,Int.reduceEq,not_false_eq_true];omega
theorem FN (F:dS) {r:Rec} (h:WG xo bo r) (n:Nat):Sz xo bo (tm xo bo) 0 (iD F r n):=by
 unfold iD;refine Sz.mono (Sz.bind (e:=0) (pR F _) fun t=>Sz.mono (Sz.bind (e:=1) (iC F _ _) fun _=>Sz.mono (Sz.bind (q:=km xo bo) (c:=0) (e:=1) ?_ fun ps=>Sz.mono (Sz.bind (e:=km xo bo ps+1) h.block fun b=>Sz.pure ?_) (by omega)) (by omega)) (by omega)) (by omega)
 ·exact Sz.mono (Sz.bind (e:=0) (kC F _ _) fun _=>Sz.ite (Sz.pure (by simp[bV])) (Sz.mono (Bq F n []) (by simp[bV]))) (by omega)
 ·simp only[dn,jL,bG,bV,ne_eq,Int.reduceEq,not_false_eq_true];omega
theorem sN (F:dS) {r:Rec} (h:WG xo bo r) (q:Nat):∀n ks,Sz xo bo (km xo bo) (km xo bo ks) (jT F r q n ks)
 | 0,_=>Sz.out
 | n+1,ks=>by
  refine Sz.mono (Sz.bind (e:=km xo bo ks) (FL F) fun t=>Sz.ite (Sz.pure (by omega)) (Sz.mono (Sz.bind (e:=km xo bo ks) (kC F _ _) fun _=>Sz.ite (Sz.mono (Sz.bind (e:=km xo bo ks) (pR F _) fun t=>Sz.mono (Sz.bind (e:=1+km xo bo ks) (iC F _ _) fun _=>Sz.mono (sN F h q n _) ?_) (by omega)) (by omega))
   (Sz.mono (Sz.bind (e:=km xo bo ks) (kC F _ _) fun _=>Sz.ite (Sz.mono (Sz.bind (e:=km xo bo ks) (FN F h q) fun f=>Sz.mono (sN F h q n _) ?_) (by omega)) (sM F)) (by omega))) (by omega))) (by omega)
  ·simp only[jL,bG,dn,bV,ne_eq,Int.reduceEq,not_false_eq_true];omega
  ·rw[jL,bG,bV];omega
theorem Ie (F:dS) (n:Nat):Sz xo bo (tm xo bo) 1 (fU F n) :=
 Sz.mono (Sz.bind (e:=1) (sN F (LZ F n) n n []) fun ks=>Sz.pure (by simp only[dn,ne_eq,Int.reduceEq,not_false_eq_true];omega)) (by simp[bV])
theorem Ig (xo:Int × Bytes) (ts:TS):Kv xo 0 ts=ts.length:=by
 induction ts with
 | nil=>rfl
 | cons p l ih=>simp only[Kv,ih,wO,ite_self,List.length_cons];omega
theorem P7 (xo:Int × Bytes) (l:List Node):PX xo 0 l=l.length:=by
 induction l with
 | nil=>rfl
 | cons n l ih=>simp only[PX,ih,wO,ite_self,List.length_cons];omega
theorem FP (F:dS) (n:Nat) (ts:TS) (t:Tree) (ts':TS) (h:fU F n ts=some (.ok (t,ts'))):t.row.length+ts'.length≤1+ts.length:=by
 have h1:=Ie (xo:=(0,[])) (bo:=0) F n ts t ts' h;rw[Ig,Ig]at h1
 unfold tm at h1
 rwa [P7]at h1
def afy (xo:Int × Bytes) (ts:TS):Nat:=(ts.filter (fun p=>p.1.kind==3&&(p.1.at',p.1.text)==xo)).length
def aeN (xo:Int × Bytes) (l:List Node):Nat:=(l.filter (fun n=>n.kind==21&&(n.at',n.text)==xo)).length
theorem aeo (xo:Int × Bytes) (bo:Nat) (ts:TS):Kv xo bo ts=ts.length+bo*afy xo ts:=by
 induction ts with
 | nil=>rfl
 | cons p l ih =>
  unfold afy at *;simp only[Kv,ih,wO,List.filter_cons,List.length_cons];split
  ·rw[List.length_cons,Nat.mul_succ];omega
  ·omega
theorem af3 (xo:Int × Bytes) (bo:Nat) (l:List Node):PX xo bo l=l.length+bo*aeN xo l:=by
 induction l with
 | nil=>rfl
 | cons p l ih =>
  unfold aeN at *;simp only[PX,ih,wO,List.filter_cons,List.length_cons];split
  ·rw[List.length_cons,Nat.mul_succ];omega
  ·omega
theorem aaZ (xo:Int × Bytes) (F:dS) (n:Nat) (ts:TS) (t:Tree) (ts':TS) (h:fU F n ts=some (.ok (t,ts'))):aeN xo t.row≤afy xo ts:=by
 have h1:=Ie (xo:=xo) (bo:=ts.length+2) F n ts t ts' h;rw[aeo,aeo]at h1
 unfold tm at h1;rw[af3]at h1
 apply Nat.le_of_not_lt;intro hlt
 have:=Nat.mul_le_mul_left (ts.length+2) (Nat.succ_le_of_lt hlt)
 rw[Nat.mul_succ]at this
 omega
end Ck
end
section
namespace Ck
theorem mJ:∀(f:Nat) (s:Bytes) (a:Nat),(lexFrom f s a).1.length≤s.length+1
 | 0,s,a=>by simp[lexFrom]
 | f+1,[],a=>by simp[lexFrom]
 | f+1,c::s,a=>by
  by_cases h1:(c==32||c==9||c==10)=true
  ·rw[tT f c s a h1]
   have:=mJ f s (a+1)
   simp only[List.length_cons];omega
  ·have h1:(c==32||c==9||c==10)=false:=by simpa using h1
   by_cases h2:(c==35)=true
   ·rw[rW f c s a h2]
    have:=mJ f ((c::s).drop (run (fun d=>d != 10) (c::s))) (a+run (fun d=>d != 10) (c::s))
    simp only[List.length_drop,List.length_cons]at this ⊢;omega
   ·have h2:(c==35)=false:=by simpa using h2
    cases hn:bM (c::s) with
    | error e=>rw[yB f c s a h1 h2 e hn];simp
    | ok p =>
     obtain⟨t,k⟩:=p
     rw[rX f c s a h1 h2 t k hn]
     have:=mJ f ((c::s).drop k) (a+k)
     have:=yx _ t k hn
     simp only[List.length_drop,List.length_cons]at *;omega
theorem qV (s:Bytes):(aM s).1.length≤65537:=by
 unfold aM;split
 ·simp
 ·have:=mJ (s.length+1) s 0;omega
def fuel (s:Bytes):Nat:=(aM s).1.length*32+1
theorem xP:∀(l:List Tok) (n:Int),(iM l n).length=l.length
 | [],_=>rfl
 | t::l,n=>by simp[iM,xP l]
theorem uP (s:Bytes):parseWith (fuel s) s≠none:=by
 have:=CY (aM s).2 (iM (aM s).1 0) (fuel s) (by rw[xP];exact Nat.le_refl _)
 unfold parseWith;split
 ·contradiction
 ·simp
 ·simp
def parse (s:Bytes):List Node × dS:=(parseWith (fuel s) s).getD ([],⟨0,0⟩)
theorem Ag (s:Bytes):parseWith (fuel s) s=some (parse s):=by
 unfold parse;cases h:parseWith (fuel s) s with
 | none=>exact absurd h (uP s)
 | some r=>rfl
theorem Af (s:Bytes) (n:Nat) (l:List Node) (f:dS) (h:parseWith n s=some (l,f)):l.length≤(aM s).1.length+1:=by
 unfold parseWith at h;split at h
 ·cases h
 ·cases h;simp
 ·rename_i t ts' hp;cases h
  have:=FP (aM s).2 n _ _ _ hp
  rw[xP]at this
  omega
theorem Nn (s:Bytes):(parse s).1.length≤65538:=by
 have:=Af s (fuel s) (parse s).1 (parse s).2 (Ag s)
 have:=qV s
 omega
def kU (s:Bytes):List Node × dS :=
 match fU (aM s).2 (fuel s) (iM (aM s).1 0) with
 | some (.ok (T,_))=>if (bC T false).code==0 then(T.row,bC T false) else([],bC T false)
 | some (.error f)=>if f.code==0 then([],⟨72,0⟩) else([],f)
 | none=>([],⟨0,0⟩)
mutual
theorem kg:∀(T:Tree),T.row.length=T.size
 | .mk n ks=>by simp[Tree.row,Tree.size,bP ks]
theorem bP:∀(l:List Tree),(rows l).length=sizes l
 | []=>rfl
 | t::l=>by simp[rows,sizes,kg t,bP l]
end
mutual
def Tree.all (P:Node→List Tree→Prop):Tree→Prop
 | .mk n ks=>P n ks∧oH P ks
def oH (P:Node→List Tree→Prop):List Tree→Prop
 | []=>True
 | t::l=>t.all P∧oH P l
end
theorem dN {P:Node→List Tree→Prop} {l:List Tree} (h:oH P l):∀t∈l,t.all P:=by
 induction l with
 | nil=>intro t ht;cases ht
 | cons a l ih =>
  intro t ht;rcases List.mem_cons.1 ht with rfl|ht
  ·exact h.1
  ·exact ih h.2 t ht
theorem Np {l:List Tree}:∀t∈l,t.size≤sizes l:=by
 induction l with
 | nil=>intro t ht;cases ht
 | cons a l ih =>
  intro t ht;rcases List.mem_cons.1 ht with rfl|ht
  ·simp[sizes]
  ·have:=ih t ht;simp[sizes];omega
theorem size_pos (T:Tree):1≤T.size:=by cases T;simp[Tree.size]
mutual
theorem fC:∀(T:Tree) (h:Nat),T.height h≤h+5*T.size
 | .mk n ks,h=>by
  have hS:=Br ks h;have hC:=Bu ks h;have hB:=Bv ks h h;have hF:=rA ks h;unfold Tree.height Tree.size
  repeat' split
  all_goals omega
theorem Br:∀(l:List Tree) (h:Nat),fE l h≤h+5*sizes l
 | [],h=>by simp[fE]
 | t::l,h=>by
  have:=fC t h
  have:=Br l h
  simp only[fE,sizes];omega
theorem Bu:∀(l:List Tree) (h:Nat),fD l h≤h+5*sizes l
 | [],h=>by simp[fD]
 | t::l,h=>by
  have:=fC t h
  have:=Bu l (h+1)
  have:=size_pos t
  simp only[fD,sizes];omega
theorem Bv:∀(l:List Tree) (h m:Nat),mD l h m≤max m (h+5*sizes l)
 | [],h,m=>by simp[mD,sizes];omega
 | t::l,h,m=>by
  have h1:=fC t h;have h2:=Bv l (if t.n.kind==6 then h+1 else h) (max m (t.height h))
  have:=size_pos t
  simp only[mD,sizes];generalize mD l (if t.n.kind==6 then h+1 else h) (max m (t.height h))=y at h2 ⊢;split at h2<;>omega
theorem rA:∀(l:List Tree) (h:Nat),jy l h≤h+3+5*sizes l
 | [],h=>by simp[jy]
 | [t],h=>by
  have:=fC t (h+3)
  simp only[jy,sizes];omega
 | [t,u],h=>by
  have:=fC t (h+1)
  have:=rA [u] h
  simp only[jy,sizes]at *;omega
 | [t,u,v],h=>by
  have:=fC t h
  have:=rA [u,v] h
  simp only[jy,sizes]at *;omega
 | t::u::v::x::l,h=>by
  have:=rA (u::v::x::l) h
  simp only[jy,sizes]at *;omega
end
theorem yM {α β:Type} {x:Except dS α} {f:α→Except dS β} {y:β} (h:(x >>= f)=.ok y):∃a,x=.ok a∧f a=.ok y:=by
 cases x with
 | error e=>cases h
 | ok a=>exact⟨a,rfl,h⟩
structure Bd (s:CS) (i:Nat):Prop where
 sc:∀l∈s.scopes,l.length≤i
 ah:s.ahead.length≤i
theorem Bd.mono {s:CS} {i j:Nat} (h:Bd s i) (hj:i≤j):Bd s j:=⟨fun l hl=>Nat.le_trans (h.sc l hl) hj,Nat.le_trans h.ah hj⟩
theorem Bd.push {s:CS} {i:Nat} (h:Bd s i) (l0:List Bytes) (hl:l0.length≤i):Bd { s with scopes:=l0::s.scopes } i:=⟨fun l hm=>by
 rcases List.mem_cons.1 hm with rfl|hm
 ·exact hl
 ·exact h.sc l hm,h.ah⟩
theorem Bd.pop {s:CS} {i:Nat} (h:Bd s i):Bd { s with scopes:=s.scopes.tail } i:=⟨fun l hm=>h.sc l (List.mem_of_mem_tail hm),h.ah⟩
theorem Bd.loops {s:CS} {i:Nat} (h:Bd s i) (x:List Bytes):Bd { s with loops:=x } i:=⟨h.sc,h.ah⟩
theorem Bd.add {s:CS} {i:Nat} (h:Bd s i) (x:Bytes):Bd (s.add x) (i+1):=by
 refine⟨fun l hm=>?_,Nat.le_succ_of_le h.ah⟩;rcases List.mem_cons.1 hm with rfl|hm
 ·simp only[List.length_cons,CS.top];cases hs:s.scopes with
  | nil=>simp
  | cons a r=>have:=h.sc a (by rw[hs];simp);simp;omega
 ·exact Nat.le_succ_of_le (h.sc l (List.mem_of_mem_tail hm))
def Body (n:Node) (_:List Tree):Prop:=(n.kind==2||n.kind==3)=false
mutual
theorem nC (E:Env):∀(T:Tree) (d k i:Nat) (s s':CS),T.all Body→Bd s i→jg E T d k s=.ok s'→Bd s' (i+T.size)∧s'.loops=s.loops
 | .mk n ks,d,k,i,s,s',hA,hb,h=>by
  unfold jg at h;obtain⟨_,_,h⟩:=yM h
  have hB:(n.kind==2||n.kind==3)=false:=hA.1;rw[hB]at h
  rw[if_neg Bool.false_ne_true]at h
  have hsz:(Tree.mk n ks).size=sizes ks+1:=by simp[Tree.size]
  have fin:∀s0,s0=s.add n.text∨s0=s→gu E ks (d+1) 0 s0=.ok s'→Bd s' (i+(Tree.mk n ks).size)∧s'.loops=s.loops:=fun s0 h0 h=>by
   have hb1:Bd s0 (i+1)∧s0.loops=s.loops:=by
    rcases h0 with rfl|rfl
    ·exact⟨hb.add _,rfl⟩
    ·exact⟨hb.mono (by omega),rfl⟩
   obtain⟨b1,l1⟩:=nS E ks (d+1) 0 (i+1) _ s' hA.2 hb1.1 h
   exact⟨b1.mono (by omega),l1.trans hb1.2⟩
  split at h
  ·obtain⟨s1,h1,h⟩:=yM h
   cases h;obtain⟨b1,l1⟩:=nS E ks (d+1) 0 i _ s1 hA.2 (hb.push [] (by simp)) h1
   exact⟨(b1.pop).mono (by omega),l1⟩
  split at h
  ·obtain⟨_,_,h⟩:=yM h
   obtain⟨s1,h1,h⟩:=yM h
   cases h;obtain⟨b1,l1⟩:=nS E ks (d+1) 0 i s s1 hA.2 hb h1
   exact⟨(b1.add n.text).mono (by omega),l1⟩
  split at h
  ·obtain⟨_,_,h⟩:=yM h
   obtain⟨_,_,h⟩:=yM h
   obtain⟨b1,l1⟩:=R8 E ks (d+1) n.text i s s' hA.2 hb h
   exact⟨b1.mono (by omega),l1⟩
  split at h
  ·obtain⟨_,_,h⟩:=yM h
   obtain⟨b1,l1⟩:=L6 E ks (d+1) 0 n.text _ (i+1) s s' hA.2 (by omega) (hb.mono (by omega)) h
   exact⟨b1.mono (by omega),l1⟩
  split at h
  ·obtain⟨_,_,h⟩:=yM h
   obtain⟨_,_,h⟩:=yM h
   exact fin _ (.inl rfl) h
  split at h
  ·obtain⟨_,_,h⟩:=yM h
   exact fin _ (.inr rfl) h
  split at h
  ·obtain⟨_,_,h⟩:=yM h
   exact fin _ (.inr rfl) h
  split at h
  ·split at h
   ·obtain⟨_,h1,h⟩:=yM h
    cases h1
   ·obtain⟨_,_,h⟩:=yM h
    exact fin _ (.inr rfl) h
  split at h
  ·obtain⟨_,_,h⟩:=yM h
   exact fin _ (.inr rfl) h
  ·exact fin _ (.inr rfl) h
theorem nS (E:Env):∀(l:List Tree) (d k i:Nat) (s s':CS),oH Body l→Bd s i→gu E l d k s=.ok s'→Bd s' (i+sizes l)∧s'.loops=s.loops
 | [],d,k,i,s,s',hA,hb,h=>by
  unfold gu at h;cases h;exact⟨hb.mono (by simp),rfl⟩
 | t::l,d,k,i,s,s',hA,hb,h=>by
  unfold gu at h;obtain⟨s1,h1,h⟩:=yM h
  obtain⟨b1,l1⟩:=nC E t d k i s s1 hA.1 hb h1
  obtain⟨b2,l2⟩:=nS E l d (k+1) _ s1 s' hA.2 b1 h
  exact⟨by simpa[sizes,Nat.add_assoc]using b2,l2.trans l1⟩
theorem R8 (E:Env):∀(l:List Tree) (d:Nat) (x:Bytes) (i:Nat) (s s':CS),oH Body l→Bd s i→yX E l d x s=.ok s'→Bd s' (i+sizes l)∧s'.loops=s.loops
 | [],d,x,i,s,s',hA,hb,h=>by
  unfold yX at h;cases h;exact⟨hb.mono (by simp),rfl⟩
 | t::l,d,x,i,s,s',hA,hb,h=>by
  unfold yX at h;obtain⟨s1,h1,h⟩:=yM h
  obtain⟨s2,h2,h⟩:=yM h
  cases h;obtain⟨b1,l1⟩:=nC E t d 0 i s s1 hA.1 hb h1
  obtain⟨b2,l2⟩:=nS E l d 1 _ _ s2 hA.2 (b1.loops (x::s1.loops)) h2
  exact⟨by simpa[sizes,Nat.add_assoc]using b2.loops _,by simp[l2,l1]⟩
theorem L6 (E:Env):∀(l:List Tree) (d k:Nat) (v x:Bytes) (i:Nat) (s s':CS),oH Body l→1≤i→Bd s i→yY E l d k v x s=.ok s'→Bd s' (i+sizes l)∧s'.loops=s.loops
 | [],d,k,v,x,i,s,s',hA,hi,hb,h=>by
  unfold yY at h;cases h;exact⟨hb.mono (by simp),rfl⟩
 | t::l,d,k,v,x,i,s,s',hA,hi,hb,h=>by
  unfold yY at h;split at h
  ·obtain⟨s1,h1,h⟩:=yM h
   cases h;obtain⟨b1,l1⟩:=nC E t d k i _ s1 hA.1 ((hb.loops (x::s.loops)).push [v] (by simpa using hi)) h1
   exact⟨((b1.pop).loops _).mono (by simp[sizes]<;>omega),by simp[l1]⟩
  ·obtain⟨s1,h1,h⟩:=yM h
   obtain⟨b1,l1⟩:=nC E t d k i s s1 hA.1 hb h1
   obtain⟨b2,l2⟩:=L6 E l d (k+1) v x _ s1 s' hA.2 (by omega) b1 h
   exact⟨by simpa[sizes,Nat.add_assoc]using b2,l2.trans l1⟩
end
end Ck
end
