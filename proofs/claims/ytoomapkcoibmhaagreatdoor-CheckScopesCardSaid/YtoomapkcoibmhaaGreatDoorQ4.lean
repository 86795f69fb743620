/- A part of the proof. -/
import Derived.Test.YtoomapkcoibmhaaGreatDoorQ3
set_option maxRecDepth 100000
set_option maxHeartbeats 12800000
set_option linter.all false
section
namespace Ck
structure TokOk (t:Tok):Prop where
 name:t.kind=1→okName t.text=true
 whole:t.kind=4→0≤t.int∧t.int≤9223372036854775807
 bits:t.kind=5→(0≤t.bits∧t.bits≤bInf)∨t.bits=bNaN
 len:t.text.length≤65536
abbrev TOk (ts:TS):Prop:=∀x∈ts,TokOk x.1
def Ho {α:Type} (A:TS→Prop) (p:P α) (B:α→TS→Prop):Prop:=∀ts a ts',A ts→p ts=some (.ok (a,ts'))→B a ts'
abbrev SatT {α:Type} (Q:α→Prop) (p:P α):Prop:=Ho TOk p (fun a ts=>Q a∧TOk ts)
section
variable {α β:Type} {A:TS→Prop} {C:β→TS→Prop} {B:α→TS→Prop} {Q:α→Prop} {R:β→Prop}
theorem Ho.bind {x:P β} {f:β→P α} (hx:Ho A x C) (hf:∀b,Ho (C b) (f b) B):Ho A (x >>= f) B:=by
 intro ts a ts' hA h
 obtain⟨b,t1,h1,h2⟩:=bind_ok h
 exact hf b _ _ _ (hx _ _ _ hA h1) h2
theorem SatT.bind {x:P β} {f:β→P α} (hx:SatT R x) (hf:∀b,R b→SatT Q (f b)):SatT Q (x >>= f) :=
 Ho.bind hx (fun b ts a ts' ⟨h1,h2⟩ h=>hf b h1 ts a ts' h2 h)
theorem SatT.pure {a:α} (h:Q a):SatT Q (pure a:P α):=by
 intro ts b ts' hA e
 rw[pure_eq]at e
 simp only[Option.some.injEq,Except.ok.injEq,Prod.mk.injEq]at e
 obtain⟨rfl,rfl⟩:=e
 exact⟨h,hA⟩
theorem Ho.fail (f:Flt):Ho A (P.fail f:P α) B:=fun _ _ _ _ e=>by cases e
theorem Ho.out:Ho A (P.out:P α) B:=fun _ _ _ _ e=>by cases e
theorem Ho.ite {c:Prop} [Decidable c] {x y:P α} (hx:c→Ho A x B) (hy:¬c→Ho A y B):Ho A (if c then x else y) B:=by
 split
 ·rename_i h;exact hx h
 ·rename_i h;exact hy h
theorem Ho.pre {A':TS→Prop} {x:P α} (h:Ho A x B) (hA:∀ts,A' ts→A ts):Ho A' x B:=fun ts a ts' h1 h2=>h ts a ts' (hA ts h1) h2
variable {F:Flt}
theorem look_t:SatT TokOk (look F):=by
 intro ts a ts' hA h
 unfold look at h
 split at h
 ·rename_i t ht
  cases h
  unfold lookAt at ht
  split at ht
  ·cases ht
  ·split at ht
   ·cases ht
   ·cases ht;exact⟨hA _ (List.mem_cons_self ..),hA⟩
 ·cases h
theorem look1_t:SatT (fun _=>True) (look1 F):=by
 intro ts a ts' hA h
 unfold look1 at h
 split at h
 ·cases h;exact⟨trivial,hA⟩
 ·cases h
theorem adv_t:SatT (fun _=>True) adv:=by
 intro ts a ts' hA h
 cases h
 exact⟨trivial,fun x hx=>hA x (List.mem_of_mem_tail hx)⟩
theorem wrong_t:Ho A (wrong F:P α) B:=by
 intro ts a ts' hA h
 obtain⟨b,t1,h1,h2⟩:=bind_ok h
 cases h2
theorem sees_t (k:Int) (l:List Bytes):SatT (fun _=>True) (sees F k l):=SatT.bind look_t fun t _=>SatT.pure trivial
def Head (k:Int) (l:List Bytes) (ts:TS):Prop:=∃t o r,ts=(t,o)::r∧t.kind=k∧l.contains t.text=true
theorem sees_h (k:Int) (l:List Bytes):Ho TOk (sees F k l) (fun b ts=>TOk ts∧(b=true→Head k l ts)):=by
 intro ts b ts' hA h
 obtain⟨t,t1,h1,h2⟩:=bind_ok h
 unfold look at h1
 split at h1
 ·rename_i t' ht
  cases h1
  cases h2
  refine⟨hA,fun hb=>?_⟩
  unfold lookAt at ht
  split at ht
  ·cases ht
  ·split at ht
   ·cases ht
   ·cases ht
    simp only[Bool.and_eq_true,beq_iff_eq]at hb
    exact⟨_,_,_,rfl,hb.1,hb.2⟩
 ·cases h1
theorem skip_t (k:Int) (x:Bytes):SatT (fun _=>True) (skip F k x):=SatT.bind (sees_t k _) fun _ _=>Ho.ite (fun _=>SatT.bind adv_t fun _ _=>SatT.pure trivial) (fun _=>SatT.pure trivial)
theorem must_t (k:Int) (x:Bytes):SatT (fun _=>True) (must F k x):=SatT.bind look_t fun _ _=>SatT.bind (skip_t k x) fun _ _=>Ho.ite (fun _=>SatT.pure trivial) (fun _=>wrong_t)
theorem take_t (k:Int):SatT (fun t=>TokOk t∧t.kind=k) (take F k):=SatT.bind look_t fun t ht=>Ho.ite (fun h=>SatT.bind adv_t fun _ _=>SatT.pure ⟨ht,by simpa using h⟩) (fun _=>wrong_t)
theorem take_h (k:Int) (l:List Bytes):Ho (fun ts=>TOk ts∧Head k l ts) (take F k) (fun t ts=>(TokOk t∧l.contains t.text=true)∧TOk ts):=by
 rintro ts a ts' ⟨hA,t,o,r,rfl,h1,h2⟩ h
 have h0:=take_t (F:=F) k _ _ _ hA h
 refine⟨⟨h0.1.1,?_⟩,h0.2⟩
 obtain⟨t',t1,g1,g2⟩:=bind_ok h
 unfold look at g1
 split at g1
 ·rename_i t2 ht
  cases g1
  unfold lookAt at ht
  simp only at ht
  split at ht
  ·cases ht
  ·cases ht
   split at g2
   ·obtain⟨_,t3,g3,g4⟩:=bind_ok g2
    cases g4
    exact h2
   ·obtain⟨_,t3,g3,g4⟩:=bind_ok g2
    cases g4
 ·cases g1
end
def isE (t:Tree):Prop:=18≤t.n.kind∧t.n.kind≤31
def isS (t:Tree):Prop:=6≤t.n.kind∧t.n.kind≤17∧t.n.kind≠12
def isB (t:Tree):Prop:=t.n.kind=5
def plainN (n:Node):Prop:=n.int=0∧n.bits=0
def bareN (n:Node):Prop:=n.text=[]∧n.int=0∧n.bits=0
def namedN (n:Node):Prop:=okName n.text=true∧n.int=0∧n.bits=0
def twoE (ks:List Tree):Prop:=∃e f,ks=[e,f]∧isE e∧isE f
def oneE (ks:List Tree):Prop:=∃e,ks=[e]∧isE e
def gram (n:Node) (ks:List Tree):Prop :=
 if n.kind=1 then bareN n∧∀t∈ks,t.n.kind=2∨t.n.kind=3
 else if n.kind=2 then namedN n∧ks=[]
 else if n.kind=3 then namedN n∧∃ps b,ks=ps++[b]∧(∀t∈ps,t.n.kind=4)∧isB b
 else if n.kind=4 then namedN n∧ks=[]
 else if n.kind=5 then bareN n∧∀t∈ks,isS t
 else if n.kind=6∨n.kind=7 then namedN n∧oneE ks
 else if n.kind=8 then bareN n∧∃e f g,ks=[e,f,g]∧isE e∧isE f∧isE g
 else if n.kind=9 then bareN n∧((∃e b,ks=[e,b]∧isE e∧isB b)∨∃e b c,ks=[e,b,c]∧isE e∧isB b∧(isB c∨c.n.kind=9))
 else if n.kind=10 then(namedN n∨bareN n)∧∃e b,ks=[e,b]∧isE e∧isB b
 else if n.kind=11 then namedN n∧((∃e g b,ks=[e,g,b]∧isE e∧isE g∧isB b)∨∃l e g b,ks=[l,e,g,b]∧l.n.kind=12∧isE e∧isE g∧isB b)
 else if n.kind=12 then namedN n∧ks=[]
 else if n.kind=13∨n.kind=14 then(namedN n∨bareN n)∧ks=[]
 else if n.kind=15 then bareN n∧(ks=[]∨oneE ks)
 else if n.kind=16∨n.kind=17 then bareN n∧oneE ks
 else if n.kind=18∨n.kind=19∨n.kind=24 then bareN n∧twoE ks
 else if n.kind=20 then bareN n∧oneE ks
 else if n.kind=21 then plainN n∧binaries.contains n.text=true∧twoE ks
 else if n.kind=22 then plainN n∧(n.text=[45]∨n.text=[126])∧oneE ks
 else if n.kind=23 then namedN n∧∀t∈ks,isE t
 else if n.kind=25 then namedN n∧ks=[]
 else if n.kind=26 then n.text=[]∧n.bits=0∧0≤n.int∧n.int≤9223372036854775807∧ks=[]
 else if n.kind=27 then n.text=[]∧n.int=0∧((0≤n.bits∧n.bits≤bInf)∨n.bits=bNaN)∧ks=[]
 else if n.kind=28 then plainN n∧ks=[]
 else if n.kind=29∨n.kind=30∨n.kind=31 then bareN n∧ks=[]
 else False
def Gm (n:Node) (ks:List Tree):Prop:=n.text.length≤65536∧gram n ks
def TE (t:Tree):Prop:=t.all Gm∧isE t
def TSt (t:Tree):Prop:=t.all Gm∧isS t
def TB (t:Tree):Prop:=t.all Gm∧isB t
def T9 (t:Tree):Prop:=t.all Gm∧t.n.kind=9
theorem alls_of {P:Node→List Tree→Prop} {l:List Tree} (h:∀t∈l,t.all P):alls P l:=by
 induction l with
 | nil=>trivial
 | cons a l ih=>exact⟨h a (by simp),ih (fun t ht=>h t (by simp[ht]))⟩
theorem all_leaf {k a:Int} {x:Bytes} {l:List Tree} (hx:x.length≤65536) (hg:gram ⟨k,a,0,x,0,0⟩ l) (hl:∀t∈l,t.all Gm):(leaf k a x l).all Gm:=⟨⟨hx,hg⟩,alls_of hl⟩
theorem mkE {k a:Int} {x:Bytes} {l:List Tree} (hx:x.length≤65536) (hg:gram ⟨k,a,0,x,0,0⟩ l) (hl:∀t∈l,t.all Gm) (hk:18≤k∧k≤31):TE (leaf k a x l):=⟨all_leaf hx hg hl,hk⟩
theorem mkS {k a:Int} {x:Bytes} {l:List Tree} (hx:x.length≤65536) (hg:gram ⟨k,a,0,x,0,0⟩ l) (hl:∀t∈l,t.all Gm) (hk:6≤k∧k≤17∧k≠12):TSt (leaf k a x l):=⟨all_leaf hx hg hl,hk⟩
structure SatTR (r:Rec):Prop where
 block:SatT TB r.block
 statement:SatT TSt r.statement
 choice:SatT T9 r.choice
 loop:∀l,(∀t,l=some t→TokOk t∧t.kind=1)→SatT TSt (r.loop l)
 expr:SatT TE r.expr
 and':SatT TE r.and'
 not':SatT TE r.not'
 level:∀k,SatT TE (r.level k)
 unary:SatT TE r.unary
 primary:SatT TE r.primary
section
variable {F:Flt} {r:Rec} (h:SatTR r)
include h
theorem exprL_t:∀n e,TE e→SatT TE (exprL F r n e)
 | 0,_,_=>Ho.out
 | n+1,e,he=>SatT.bind (sees_t _ _) fun _ _=>Ho.ite (fun _=>SatT.bind (must_t _ _) fun a _=>SatT.bind h.and' fun f hf=>exprL_t n _ (mkE (by simp) (by simp[gram,and_assoc,bareN,twoE,he.2,hf.2]) (by simp[he.1,hf.1]) (by decide))) (fun _=>SatT.pure he)
theorem andL_t:∀n e,TE e→SatT TE (andL F r n e)
 | 0,_,_=>Ho.out
 | n+1,e,he=>SatT.bind (sees_t _ _) fun _ _=>Ho.ite (fun _=>SatT.bind (must_t _ _) fun a _=>SatT.bind h.not' fun f hf=>andL_t n _ (mkE (by simp) (by simp[gram,and_assoc,bareN,twoE,he.2,hf.2]) (by simp[he.1,hf.1]) (by decide))) (fun _=>SatT.pure he)
theorem pTwo_t (e:Tree) (k:Nat) (l:List Bytes) (hl:∀x,l.contains x=true→binaries.contains x=true) (he:TE e):Ho (fun ts=>TOk ts∧Head 3 l ts) (pTwo F r e k) (fun a ts=>TE a∧TOk ts) :=
 Ho.bind (take_h 3 l) fun t=>fun ts a ts' ⟨h1,h2⟩ hh=>(SatT.bind (Q:=TE) (h.level k) fun f hf=>SatT.pure (mkE h1.1.len (by simp only[gram];exact⟨⟨rfl,rfl⟩,hl _ h1.2,e,f,rfl,he.2,hf.2⟩) (by simp[he.1,hf.1]) (by decide))) ts a ts' h2 hh
theorem levels_bin {k:Nat} {l:List Bytes} (hl:levels[k]? = some l):∀x,l.contains x=true→binaries.contains x=true:=by
 have:∀m∈levels,∀x∈m,binaries.contains x=true:=by decide
 intro x hx
 exact this l (List.mem_of_getElem? hl) x (by simpa using hx)
theorem levelL_t (k:Nat) (l:List Bytes) (hl:∀x,l.contains x=true→binaries.contains x=true):∀n e,TE e→SatT TE (levelL F r k l n e)
 | 0,_,_=>Ho.out
 | n+1,e,he=>Ho.bind (sees_h 3 l) fun b=>by
   cases b with
   | true=>exact Ho.pre (Ho.bind (pTwo_t h e (k+1) l hl he) fun e' ts a ts' ⟨h1,h2⟩ hh=>levelL_t k l hl n e' h1 ts a ts' h2 hh) (fun ts ht=>⟨ht.1,ht.2 rfl⟩)
   | false=>exact Ho.pre (SatT.pure he) (fun ts ht=>ht.1)
theorem unaryL_t:∀n e,TE e→SatT TE (unaryL F r n e)
 | 0,_,_=>Ho.out
 | n+1,e,he=>SatT.bind (sees_t _ _) fun _ _=>Ho.ite (fun _=>SatT.bind (must_t _ _) fun a _=>SatT.bind h.expr fun f hf=>SatT.bind (must_t _ _) fun _ _=>unaryL_t n _ (mkE (by simp) (by simp[gram,and_assoc,bareN,twoE,he.2,hf.2]) (by simp[he.1,hf.1]) (by decide))) (fun _=>SatT.pure he)
theorem pNot_t:SatT TE (pNot F r):=by
 unfold pNot
 refine SatT.bind (sees_t _ _) fun _ _=>Ho.ite (fun _=>?_) (fun _=>?_)
 ·exact SatT.bind (must_t _ _) fun a _=>SatT.bind h.not' fun e he=>SatT.pure (mkE (by simp) (by simp[gram,and_assoc,bareN,oneE,he.2]) (by simp[he.1]) (by decide))
 ·refine SatT.bind (h.level 0) fun e he=>Ho.bind (sees_h 3 _) fun b=>?_
  cases b with
  | true=>exact Ho.pre (pTwo_t h e 0 _ (fun x hx=>by
    have:∀y∈([[61,61],[33,61],[60],[60,61],[62],[62,61]]:List Bytes),binaries.contains y=true:=by decide
    exact this x (by simpa using hx)) he) (fun ts ht=>⟨ht.1,ht.2 rfl⟩)
  | false=>exact Ho.pre (SatT.pure he) (fun ts ht=>ht.1)
theorem pLevel_t (n k:Nat):SatT TE (pLevel F r n k):=by
 unfold pLevel
 split
 ·exact h.unary
 ·rename_i l hl
  exact SatT.bind (h.level (k+1)) fun e he=>levelL_t h k l (levels_bin h hl) n e he
theorem pUnary_t (n:Nat):SatT TE (pUnary F r n):=by
 unfold pUnary
 refine Ho.bind (sees_h 3 _) fun b=>?_
 cases b with
 | true =>
  refine Ho.pre (Ho.bind (take_h 3 [[45],[126]]) fun t=>?_) (fun ts ht=>⟨ht.1,ht.2 rfl⟩)
  intro ts a ts' ⟨h1,h2⟩ hh
  exact(SatT.bind (Q:=TE) h.unary fun e he=>SatT.pure (mkE h1.1.len (by simp only[gram];have:=h1.2;simpa[plainN,oneE,he.2]using this) (by simp[he.1]) (by decide))) ts a ts' h2 hh
 | false=>exact Ho.pre (SatT.bind h.primary fun e he=>unaryL_t h n e he) (fun ts ht=>ht.1)
theorem callL_t:∀n ks,(∀t∈ks,TE t)→SatT (fun ks=>∀t∈ks,TE t) (callL F r n ks)
 | 0,_,_=>Ho.out
 | n+1,ks,hk=>SatT.bind h.expr fun e he=>by
   have hk2:∀t∈ks++[e],TE t:=by
    intro t ht
    rcases List.mem_append.1 ht with ht|ht
    ·exact hk t ht
    ·obtain rfl:t=e:=by simpa using ht
     exact he
   exact SatT.bind (skip_t _ _) fun _ _=>Ho.ite (fun _=>callL_t n _ hk2) (fun _=>SatT.bind (must_t _ _) fun _ _=>SatT.pure hk2)
theorem pPrimary_t (n:Nat):SatT TE (pPrimary F r n):=by
 unfold pPrimary
 refine SatT.bind look_t fun t ht=>?_
 refine Ho.ite (fun hk=>SatT.bind adv_t fun _ _=>SatT.pure ?_) fun _=>?_
 ·have:=ht.whole (by simpa using hk)
  exact⟨⟨⟨by simp,by simp[gram,this.1,this.2]⟩,trivial⟩,(by decide:(18:Int)≤26),(by decide:(26:Int)≤31)⟩
 refine Ho.ite (fun hk=>SatT.bind adv_t fun _ _=>SatT.pure ?_) fun _=>?_
 ·have:=ht.bits (by simpa using hk)
  exact⟨⟨⟨by simp,by simpa[gram]using this⟩,trivial⟩,(by decide:(18:Int)≤27),(by decide:(27:Int)≤31)⟩
 refine Ho.ite (fun hk=>SatT.bind adv_t fun _ _=>SatT.pure (mkE ht.len (by simp[gram,and_assoc,plainN]) (by simp) (by decide))) fun _=>?_
 refine Ho.ite (fun hk=>?_) fun _=>?_
 ·split
  ·rename_i k hk2
   have hk3:k=29∨k=30∨k=31:=by
    unfold constantKind at hk2
    split at hk2
    ·cases hk2;simp
    ·split at hk2
     ·cases hk2;simp
     ·split at hk2
      ·cases hk2;simp
      ·cases hk2
   refine SatT.bind adv_t fun _ _=>SatT.pure (mkE (by simp) ?_ (by simp) ?_)
   ·rcases hk3 with rfl|rfl|rfl<;>simp[gram,and_assoc,bareN]
   ·rcases hk3 with rfl|rfl|rfl<;>decide
  ·exact wrong_t
 refine Ho.ite (fun hk=>?_) fun _=>?_
 ·have hn:=ht.name (by simpa using hk)
  refine SatT.bind adv_t fun _ _=>SatT.bind (skip_t _ _) fun _ _=>Ho.ite (fun _=>?_) (fun _=>SatT.pure (mkE ht.len (by simp[gram,and_assoc,namedN,hn]) (by simp) (by decide)))
  refine SatT.bind (skip_t _ _) fun _ _=>Ho.ite (fun _=>SatT.pure (mkE ht.len (by simp[gram,and_assoc,namedN,hn]) (by simp) (by decide))) (fun _=>?_)
  exact SatT.bind (callL_t h n [] (by simp)) fun ks hks=>SatT.pure (mkE ht.len (by simp only[gram];simpa[namedN,hn]using fun t ht=>(hks t ht).2) (fun t ht=>(hks t ht).1) (by decide))
 refine Ho.ite (fun hk=>?_) fun _=>wrong_t
 exact SatT.bind (skip_t _ _) fun _ _=>Ho.ite (fun _=>SatT.bind h.expr fun e he=>SatT.bind (must_t _ _) fun _ _=>SatT.pure he) (fun _=>wrong_t)
theorem blockL_t:∀n ks,(∀t∈ks,TSt t)→SatT (fun ks=>∀t∈ks,TSt t) (blockL F r n ks)
 | 0,_,_=>Ho.out
 | n+1,ks,hk=>SatT.bind (skip_t _ _) fun _ _=>Ho.ite (fun _=>SatT.pure hk) (fun _=>SatT.bind h.statement fun e he=>blockL_t n _ (by
   intro t ht
   rcases List.mem_append.1 ht with ht|ht
   ·exact hk t ht
   ·obtain rfl:t=e:=by simpa using ht
    exact he))
theorem pBlock_t (n:Nat):SatT TB (pBlock F r n):=by
 unfold pBlock
 exact SatT.bind (must_t _ _) fun a _=>SatT.bind (blockL_t h n [] (by simp)) fun ks hks=>SatT.pure ⟨all_leaf (by simp) (by simp only[gram];simpa[bareN]using fun t ht=>(hks t ht).2) (fun t ht=>(hks t ht).1),rfl⟩
omit h in
theorem pEnd_t {t:Tree} (ht:TSt t):SatT TSt (pEnd F t):=SatT.bind (must_t _ _) fun _ _=>SatT.pure ht
theorem pPlain_t:SatT TSt (pPlain F r):=by
 unfold pPlain
 refine SatT.bind h.expr fun e he=>?_
 have he17:SatT TSt (pEnd F (leaf 17 e.n.at' [] [e])):=pEnd_t (mkS (by simp) (by simp[gram,and_assoc,bareN,oneE,he.2]) (by simp[he.1]) (by decide))
 refine Ho.ite (fun hk=>?_) fun _=>he17
 refine SatT.bind (skip_t _ _) fun _ _=>Ho.ite (fun _=>?_) fun _=>he17
 refine SatT.bind h.expr fun v hv=>?_
 obtain⟨n,ks⟩:=e
 obtain⟨⟨⟨hl,hg⟩,hks⟩,hE⟩:=he
 refine Ho.ite (fun hk5=>?_) fun hk5=>?_
 ·have h25:n.kind=25:=by simpa[Tree.n]using hk5
  simp[gram,and_assoc,h25]at hg
  exact pEnd_t (mkS hl (by simp[gram,and_assoc,oneE,hv.2,Tree.n];exact⟨hg.1.1,rfl,rfl⟩) (by simp[hv.1]) (by decide))
 ·have h24:n.kind=24:=by
   simp[Tree.n]at hk hk5
   rcases hk with hk|hk
   ·exact absurd hk hk5
   ·exact hk
  simp[gram,and_assoc,h24]at hg
  obtain⟨_,e1,f1,rfl,g1,g2⟩:=hg
  have a1:=alls_mem hks e1 (by simp)
  have a2:=alls_mem hks f1 (by simp)
  exact pEnd_t (mkS (by simp) (by simp[gram,and_assoc,bareN,Tree.ks,g1,g2,hv.2]) (by simp[Tree.ks,a1,a2,hv.1]) (by decide))
theorem pLoop_t (label:Option Tok) (hlab:∀t,label=some t→TokOk t∧t.kind=1):SatT TSt (pLoop F r label):=by
 unfold pLoop
 refine SatT.bind (take_t _) fun t ht=>Ho.ite (fun _=>?_) fun _=>?_
 ·refine SatT.bind h.expr fun e he=>SatT.bind h.block fun b hb=>SatT.pure ?_
  cases label with
  | none=>exact mkS (by simp) (by simp[gram,and_assoc,bareN,he.2,hb.2]) (by simp[he.1,hb.1]) (by decide)
  | some l =>
   obtain⟨h1,h2⟩:=hlab l rfl
   exact mkS h1.len (by simp[gram,and_assoc,namedN,h1.name h2,he.2,hb.2]) (by simp[he.1,hb.1]) (by decide)
 ·refine SatT.bind (take_t _) fun v hv=>SatT.bind (must_t _ _) fun _ _=>SatT.bind h.expr fun e he=>SatT.bind (must_t _ _) fun _ _=>SatT.bind h.expr fun g hg=>SatT.bind h.block fun b hb=>SatT.pure ?_
  have hvn:=hv.1.name hv.2
  cases label with
  | none=>exact mkS hv.1.len (by simp[gram,and_assoc,namedN,hvn,he.2,hg.2,hb.2]) (by simp[he.1,hg.1,hb.1]) (by decide)
  | some l =>
   obtain⟨h1,h2⟩:=hlab l rfl
   have hlf:(leaf 12 l.at' l.text []).all Gm:=all_leaf h1.len (by simp[gram,and_assoc,namedN,h1.name h2]) (by simp)
   exact mkS hv.1.len (by simp[gram,and_assoc,namedN,hvn,he.2,hg.2,hb.2,leaf,Tree.n]) (by simp[hlf,he.1,hg.1,hb.1]) (by decide)
theorem pChoice_t:SatT T9 (pChoice F r):=by
 unfold pChoice
 refine SatT.bind (must_t _ _) fun a _=>SatT.bind h.expr fun e he=>SatT.bind h.block fun b hb=>SatT.bind (skip_t _ _) fun _ _=>Ho.ite (fun _=>?_) fun _=>?_
 ·refine SatT.bind (sees_t _ _) fun _ _=>Ho.ite (fun _=>?_) fun _=>?_
  ·exact SatT.bind h.choice fun c hc=>SatT.pure ⟨all_leaf (by simp) (by simp[gram,and_assoc,bareN,he.2,hb.2,hc.2]) (by simp[he.1,hb.1,hc.1]),rfl⟩
  ·exact SatT.bind h.block fun c hc=>SatT.pure ⟨all_leaf (by simp) (by simp[gram,and_assoc,bareN,he.2,hb.2,hc.2]) (by simp[he.1,hb.1,hc.1]),rfl⟩
 ·exact SatT.pure ⟨all_leaf (by simp) (by simp[gram,and_assoc,bareN,he.2,hb.2]) (by simp[he.1,hb.1]),rfl⟩
theorem pStatement_t:SatT TSt (pStatement F r):=by
 unfold pStatement
 refine SatT.bind look_t fun t ht=>?_
 refine SatT.bind (R:=fun c=>c=true→t.kind=1) ?_ fun c hc=>?_
 ·refine Ho.ite (fun hk=>?_) fun _=>SatT.pure (by simp)
  exact SatT.bind look1_t fun c _=>SatT.pure (fun _=>by simpa using hk)
 refine Ho.ite (fun hct=>?_) fun _=>?_
 ·refine SatT.bind adv_t fun _ _=>SatT.bind adv_t fun _ _=>SatT.bind (sees_t _ _) fun _ _=>Ho.ite (fun _=>?_) fun _=>wrong_t
  exact h.loop _ (fun t' e=>by cases e;exact⟨ht,hc hct⟩)
 refine Ho.ite (fun _=>?_) fun _=>pPlain_t h
 refine Ho.ite (fun _=>?_) fun _=>?_
 ·exact SatT.bind adv_t fun _ _=>SatT.bind (take_t _) fun n hn=>SatT.bind (must_t _ _) fun _ _=>SatT.bind h.expr fun e he=>pEnd_t (mkS hn.1.len (by simp[gram,and_assoc,namedN,hn.1.name hn.2,oneE,he.2]) (by simp[he.1]) (by decide))
 refine Ho.ite (fun _=>?_) fun _=>?_
 ·intro ts a ts' hA hh
  obtain⟨h1,h2⟩:=h.choice ts a ts' hA hh
  exact⟨⟨h1.1,by unfold isS;rw[h1.2];decide⟩,h2⟩
 refine Ho.ite (fun _=>h.loop none (fun t e=>by cases e)) fun _=>?_
 refine Ho.ite (fun _=>?_) fun _=>?_
 ·refine SatT.bind adv_t fun _ _=>SatT.bind look_t fun c hc=>?_
  have hk:∀k:Int,k=(if t.text==[99,111,110,116,105,110,117,101]then 14 else 13)→k=13∨k=14:=fun k e=>by subst e;split<;>simp
  have hk:=hk _ rfl
  refine Ho.ite (fun _=>?_) fun _=>?_
  ·refine SatT.bind (take_t _) fun l hl=>pEnd_t ?_
   have hn:=hl.1.name hl.2
   rcases hk with hk|hk<;>rw[hk]<;>exact mkS hl.1.len (by simp[gram,and_assoc,namedN,hn]) (by simp) (by decide)
  ·refine pEnd_t ?_
   rcases hk with hk|hk<;>rw[hk]<;>exact mkS (by simp) (by simp[gram,and_assoc,bareN]) (by simp) (by decide)
 refine Ho.ite (fun _=>?_) fun _=>?_
 ·refine SatT.bind adv_t fun _ _=>SatT.bind (sees_t _ _) fun _ _=>Ho.ite (fun _=>pEnd_t (mkS (by simp) (by simp[gram,and_assoc,bareN]) (by simp) (by decide))) fun _=>?_
  exact SatT.bind h.expr fun e he=>pEnd_t (mkS (by simp) (by simp[gram,and_assoc,bareN,oneE,he.2]) (by simp[he.1]) (by decide))
 refine Ho.ite (fun _=>?_) fun _=>pPlain_t h
 exact SatT.bind adv_t fun _ _=>SatT.bind h.expr fun e he=>pEnd_t (mkS (by simp) (by simp[gram,and_assoc,bareN,oneE,he.2]) (by simp[he.1]) (by decide))
theorem step_t (n:Nat):SatTR (step F r n) where
 block:=pBlock_t h n
 statement:=pStatement_t h
 choice:=pChoice_t h
 loop l hl:=pLoop_t h l hl
 expr:=SatT.bind h.and' fun e he=>exprL_t h n e he
 and':=SatT.bind h.not' fun e he=>andL_t h n e he
 not':=pNot_t h
 level k:=pLevel_t h n k
 unary:=pUnary_t h n
 primary:=pPrimary_t h n
end
theorem recs_t (F:Flt):∀n,SatTR (recs F n)
 | 0=>⟨Ho.out,Ho.out,Ho.out,fun _ _=>Ho.out,Ho.out,Ho.out,Ho.out,fun _=>Ho.out,Ho.out,Ho.out⟩
 | n+1=>step_t (recs_t F n) n
section
variable {F:Flt} {r:Rec} (h:SatTR r)
theorem paramsL_t:∀n ks,(∀t∈ks,t.all Gm∧t.n.kind=4)→SatT (fun ks=>∀t∈ks,t.all Gm∧t.n.kind=4) (paramsL F n ks)
 | 0,_,_=>Ho.out
 | n+1,ks,hk=>SatT.bind (take_t _) fun t ht=>by
   have hk2:∀u∈ks++[leaf 4 t.at' t.text []],u.all Gm∧u.n.kind=4:=by
    intro u hu
    rcases List.mem_append.1 hu with hu|hu
    ·exact hk u hu
    ·obtain rfl:u=_:=by simpa using hu
     exact⟨all_leaf ht.1.len (by simp[gram,and_assoc,namedN,ht.1.name ht.2]) (by simp),rfl⟩
   exact SatT.bind (skip_t _ _) fun _ _=>Ho.ite (fun _=>paramsL_t n _ hk2) (fun _=>SatT.bind (must_t _ _) fun _ _=>SatT.pure hk2)
include h
theorem pFunction_t (n:Nat):SatT (fun t=>t.all Gm∧t.n.kind=3) (pFunction F r n):=by
 unfold pFunction
 refine SatT.bind (take_t _) fun t ht=>SatT.bind (must_t _ _) fun _ _=>?_
 refine SatT.bind (R:=fun ks=>∀t∈ks,t.all Gm∧t.n.kind=4) (SatT.bind (skip_t _ _) fun _ _=>Ho.ite (fun _=>SatT.pure (by simp)) fun _=>paramsL_t n [] (by simp)) fun ps hps=>?_
 refine SatT.bind h.block fun b hb=>SatT.pure ⟨all_leaf ht.1.len ?_ ?_,rfl⟩
 ·simp only[gram]
  exact⟨⟨ht.1.name ht.2,rfl,rfl⟩,ps,b,rfl,fun t ht=>(hps t ht).2,hb.2⟩
 ·intro t ht
  rcases List.mem_append.1 ht with ht|ht
  ·exact(hps t ht).1
  ·obtain rfl:t=b:=by simpa using ht
   exact hb.1
theorem programL_t (m:Nat):∀n ks,(∀t∈ks,t.all Gm∧(t.n.kind=2∨t.n.kind=3))→SatT (fun ks=>∀t∈ks,t.all Gm∧(t.n.kind=2∨t.n.kind=3)) (programL F r m n ks)
 | 0,_,_=>Ho.out
 | n+1,ks,hk=>SatT.bind look_t fun t ht=>Ho.ite (fun _=>SatT.pure hk) fun _=>by
   refine SatT.bind (skip_t _ _) fun _ _=>Ho.ite (fun _=>?_) fun _=>?_
   ·refine SatT.bind (take_t _) fun t ht=>SatT.bind (must_t _ _) fun _ _=>programL_t m n _ ?_
    intro u hu
    rcases List.mem_append.1 hu with hu|hu
    ·exact hk u hu
    ·obtain rfl:u=_:=by simpa using hu
     exact⟨all_leaf ht.1.len (by simp[gram,and_assoc,namedN,ht.1.name ht.2]) (by simp),.inl rfl⟩
   refine SatT.bind (skip_t _ _) fun _ _=>Ho.ite (fun _=>?_) fun _=>wrong_t
   refine SatT.bind (pFunction_t h m) fun f hf=>programL_t m n _ ?_
   intro u hu
   rcases List.mem_append.1 hu with hu|hu
   ·exact hk u hu
   ·obtain rfl:u=f:=by simpa using hu
    exact⟨hf.1,.inr hf.2⟩
end
theorem pProgram_t (F:Flt) (n:Nat):SatT (fun t=>t.all Gm∧t.n.kind=1) (pProgram F n):=by
 unfold pProgram
 exact SatT.bind (programL_t (recs_t F n) n n [] (by simp)) fun ks hks=>SatT.pure ⟨all_leaf (by simp) (by simp only[gram];simpa[bareN]using fun t ht=>(hks t ht).2) (fun t ht=>(hks t ht).1),rfl⟩
theorem exactM_fin (m:Nat) (e b:Int) (h:exactM m e=some b):0≤b∧b≤bInf:=by
 unfold exactM at h
 simp only at h
 generalize hm:m/2 ^ twos 64 m=m0 at h
 generalize e+(twos 64 m:Nat)=E at h
 generalize hn:(if m0==0 then 0 else m0.log2+1)=n at h
 have hlt:m0<2 ^ n:=by
  rw[←hn]
  split
  ·rename_i h0;have:=beq_iff_eq.1 h0;omega
  ·exact Nat.lt_log2_self
 unfold bInf
 split at h
 ·cases h
 ·rename_i c1
  simp only[Bool.or_eq_true,decide_eq_true_eq]at c1
  split at h
  ·rename_i c4
   obtain rfl:=Option.some.inj h
   obtain⟨k,hk⟩:∃k:Nat,(E+1074).toNat=k:=⟨_,rfl⟩
   rw[hk]
   have h2:m0*2 ^ k<2 ^ 52:=by
    have:m0*2 ^ k<2 ^ n*2 ^ k:=Nat.mul_lt_mul_of_pos_right hlt (Nat.pos_of_ne_zero (by simp))
    rw[←Nat.pow_add]at this
    exact Nat.lt_of_lt_of_le this (Nat.pow_le_pow_right (by omega) (by omega))
   omega
  ·obtain rfl:=Option.some.inj h
   have:=Nat.mod_lt (m0*2 ^ (53-n)) (y:=2 ^ 52) (by decide)
   have e52:(2:Nat) ^ 52=4503599627370496:=by decide
   have e52':(2:Int) ^ 52=4503599627370496:=by decide
   rw[e52]at this
   rw[e52,e52']
   generalize m0*2 ^ (53-n)%4503599627370496=y at this
   omega
theorem exact_fin (l:List Nat) (e b:Int) (h:exact l e=some b):0≤b∧b≤bInf:=by
 unfold exact at h
 simp only at h
 split at h
 ·obtain rfl:=Option.some.inj h;unfold bInf;omega
 ·split at h
  ·cases h
  ·exact exactM_fin _ _ _ h
theorem parseTail_fin (ok:Bool) (l:List Nat) (p:Nat) (s:Bytes) (b:Int) (h:parseTail ok l p s=.ok b):0≤b∧b≤bInf:=by
 unfold parseTail at h
 split at h
 ·split at h
  ·cases h
  ·split at h
   ·rename_i he
    cases h
    exact exact_fin _ _ _ he
   ·cases h
 ·cases h
theorem parseHex_fin (s:Bytes) (b:Int) (h:parseHex s=.ok b):0≤b∧b≤bInf:=by
 unfold parseHex at h
 split at h<;>exact parseTail_fin _ _ _ _ _ h
theorem parseFloat_fin (s:Bytes) (b:Int) (hs:s.head?≠some 45) (h:parseFloat s=.ok b):(0≤b∧b≤bInf)∨b=bNaN:=by
 unfold parseFloat at h
 split at h
 ·cases h
 split at h
 ·cases h;exact .inr rfl
 split at h
 ·cases h;exact .inl (by unfold bInf;omega)
 split at h
 ·rename_i h3
  rw[beq_iff_eq.1 h3]at hs
  exact absurd rfl hs
 split at h
 ·exact .inl (parseHex_fin _ _ h)
 ·exact absurd rfl hs
 ·cases h
theorem run_take (p:UInt8→Bool):∀s:Bytes,run p (s.take (run p s))=run p s∧(s.take (run p s)).length=run p s
 | []=>⟨rfl,rfl⟩
 | c::s=>by
  obtain⟨h1,h2⟩:=run_take p s
  unfold run
  by_cases hc:p c=true
  ·simp only[hc,if_true,List.take_succ_cons,List.length_cons,h2]
   simp[run,hc,h1]
  ·simp[hc,run]
theorem lexQuoted_txt:∀(k:Nat) (s:Bytes),s.length≤k→∀(b:Bytes) (n:Nat) (t:Tok) (m:Nat),lexQuoted s b n=.ok (t,m)→t.kind=6∧t.text.length≤b.length+s.length:=by
 intro k
 induction k with
 | zero =>
  intro s hs b n t m h
  obtain rfl:s=[]:=List.eq_nil_of_length_eq_zero (by omega)
  cases h
 | succ k ih =>
  intro s hs b n t m h
  cases s with
  | nil=>cases h
  | cons c s =>
   simp only[List.length_cons]at hs ⊢
   unfold lexQuoted at h
   split at h
   ·cases h;exact⟨rfl,by simp⟩
   split at h
   ·have:=ih s (by omega) _ _ _ _ h
    simp at this;exact⟨this.1,by omega⟩
   split at h
   ·cases h
   split at h
   ·cases h
   ·rename_i d s'
    simp only[List.length_cons]at hs ⊢
    split at h
    ·have:=ih s' (by omega) _ _ _ _ h
     simp at this;exact⟨this.1,by omega⟩
    split at h
    ·have:=ih s' (by omega) _ _ _ _ h
     simp at this;exact⟨this.1,by omega⟩
    split at h
    ·rename_i x y s''
     simp only[List.length_cons]at hs ⊢
     split at h
     ·have:=ih s'' (by omega) _ _ _ _ h
      simp at this;exact⟨this.1,by omega⟩
     ·cases h
    ·cases h
theorem digit_nz {c:UInt8} (h:digit c=true):c≠45:=by
 rintro rfl
 exact absurd h (by decide)
theorem lower_plain {c:UInt8} (h:lower c=true):(c==32||c==9||c==10)=false∧(c==35)=false:=by
 constructor
 ·rw[Bool.eq_false_iff]
  intro h2
  simp only[Bool.or_eq_true,beq_iff_eq]at h2
  rcases h2 with(rfl|rfl)|rfl<;>exact absurd h (by decide)
 ·rw[Bool.eq_false_iff]
  intro h2
  rw[beq_iff_eq]at h2
  subst h2
  exact absurd h (by decide)
theorem okName_of (c:UInt8) (s:Bytes) (t:Tok) (k:Nat) (hc:lower c=true) (h:lexName (c::s)=.ok (t,k)) (hk:t.kind=1):okName t.text=true:=by
 obtain⟨h1,h2⟩:=run_take (fun c=>lower c||digit c) (c::s)
 unfold lexName at h
 simp only at h
 generalize hn:run (fun c=>lower c||digit c) (c::s)=n at h h1 h2
 have hn1:1≤n:=by rw[←hn];unfold run;simp[hc]
 generalize ht:(c::s).take n=x at h h1 h2
 split at h
 ·cases h
 rename_i h31
 split at h
 ·cases h;simp at hk
 rename_i e1
 split at h
 ·cases h;simp at hk
 rename_i e2
 split at h
 ·cases h;simp at hk
 rename_i e3
 cases h
 obtain⟨m,rfl⟩:∃m,k=m+1:=⟨k-1,by omega⟩
 obtain⟨y,rfl⟩:∃y,x=c::y:=⟨s.take m,by rw[←ht];rfl⟩
 obtain⟨p1,p2⟩:=lower_plain hc
 have hl:lexNext (c::y)=.ok (⟨1,0,c::y,0,0⟩,m+1):=by
  unfold lexNext
  simp only[hc,if_true]
  unfold lexName
  simp only[h1]
  rw[if_neg h31]
  have:(c::y).take (m+1)=c::y:=List.take_of_length_le (by omega)
  rw[this,if_neg e1,if_neg e2,if_neg e3]
 show okName (c::y)=true
 have hlen:y.length=m:=by simpa using h2
 have hall:lexAll (c::y)=([⟨1,0,c::y,0,0⟩,⟨7,((m+1:Nat):Int),[],0,0⟩],⟨0,0⟩):=by
  unfold lexAll
  rw[if_neg (by simp;omega)]
  rw[List.length_cons,lexFrom_tok _ _ _ _ p1 p2 _ _ hl]
  have:(c::y).drop (m+1)=[]:=List.drop_of_length_le (by simp;omega)
  rw[this,lexFrom_nil]
  simp
 unfold okName
 rw[hall]
 simp
theorem lexNext_tok (c:UInt8) (s:Bytes) (t:Tok) (k:Nat) (hs:s.length+1≤65536) (h:lexNext (c::s)=.ok (t,k)):TokOk t:=by
 unfold lexNext at h
 simp only at h
 split at h
 ·rename_i hc
  refine⟨fun hk=>okName_of c s t k hc h hk,fun hk=>?_,fun hk=>?_,?_⟩
  all_goals
   unfold lexName at h
   simp only at h
   split at h
   ·cases h
   rename_i h31
   repeat' split at h
   all_goals cases h
  all_goals first|(simp at hk;done)|exact .inr rfl|exact .inl ⟨by decide,by decide⟩|(simp;done)|(simp;omega)
 split at h
 ·rename_i hp
  unfold lexDouble at h
  split at h
  ·rename_i b hb
   cases h
   refine⟨fun hk=>by simp at hk,fun hk=>by simp at hk,fun _=>parseFloat_fin _ _ ?_ hb,by simp⟩
   have hc:c=48:=by
    obtain⟨u,hu⟩:=List.isPrefixOf_iff_prefix.1 hp
    simp at hu
    exact hu.1.symm
   subst hc
   generalize doubleLen (48::s)=z
   cases z<;>simp
  ·cases h
 split at h
 ·rename_i hd
  unfold lexWhole at h
  split at h
  ·rename_i i hi
   cases h
   refine⟨fun hk=>by simp at hk,fun _=>?_,fun hk=>by simp at hk,by simp⟩
   show 0≤i∧i≤9223372036854775807
   have hz:∃z,run digit (c::s)=z+1:=⟨run digit s,by simp[run,hd]⟩
   obtain⟨z,hz⟩:=hz
   rw[hz,List.take_succ_cons]at hi
   unfold parseInt at hi
   split at hi
   ·cases hi
   split at hi
   ·rename_i d he
    injection he with he _
    exact absurd he (digit_nz hd)
   ·unfold parseNat at hi
    split at hi
    ·cases hi
    split at hi
    ·cases hi
    split at hi
    ·cases hi
    ·rename_i hle
     cases hi
     omega
  ·cases h
 split at h
 ·have:=lexQuoted_txt _ s (Nat.le_refl _) _ _ _ _ h
  refine⟨fun hk=>?_,fun hk=>?_,fun hk=>?_,by have:=this.2;simp at this;omega⟩<;>(rw[this.1]at hk;simp at hk)
 ·unfold lexMark at h
  split at h
  ·rename_i m hm
   cases h
   refine⟨fun hk=>by simp at hk,fun hk=>by simp at hk,fun hk=>by simp at hk,?_⟩
   have h1:=List.mem_of_find?_eq_some hm
   have h2:∀m∈marks,m.length≤65536:=by decide
   exact h2 m h1
  ·cases h
theorem lexFrom_tokOk:∀(f:Nat) (s:Bytes) (a:Nat),s.length≤65536→∀t∈(lexFrom f s a).1,TokOk t:=by
 intro f
 induction f with
 | zero=>intro s a hs t ht;cases ht
 | succ f ih =>
  intro s a hs t ht
  cases s with
  | nil =>
   rw[lexFrom_nil]at ht
   obtain rfl:t=_:=by simpa using ht
   exact⟨fun hk=>by simp at hk,fun hk=>by simp at hk,fun hk=>by simp at hk,by simp⟩
  | cons c s =>
   simp only[List.length_cons]at hs
   simp only[lexFrom]at ht
   split at ht
   ·exact ih _ _ (by omega) t ht
   split at ht
   ·exact ih _ _ (by simp;omega) t ht
   cases hn:lexNext (c::s) with
   | error e=>rw[hn]at ht;cases ht
   | ok p =>
    obtain⟨u,k⟩:=p
    rw[hn]at ht
    rcases List.mem_cons.1 ht with rfl|ht
    ·have:=lexNext_tok c s u k hs hn
     exact⟨this.name,this.whole,this.bits,this.len⟩
    ·exact ih _ _ (by simp;omega) t ht
theorem lexAll_tokOk (s:Bytes):∀t∈(lexAll s).1,TokOk t:=by
 unfold lexAll
 split
 ·intro t ht;cases ht
 ·exact lexFrom_tokOk _ _ _ (by omega)
theorem annot_tok:∀(l:List Tok) (n:Int),(∀t∈l,TokOk t)→TOk (annot l n)
 | [],_,_=>fun x hx=>by cases hx
 | t::l,n,h=>fun x hx=>by
  simp only[annot]at hx
  rcases List.mem_cons.1 hx with rfl|hx
  ·exact h t (by simp)
  ·exact annot_tok l _ (fun u hu=>h u (by simp[hu])) x hx
theorem parsed_gram (s:Bytes) (n:Nat) (t:Tree) (ts:TS) (h:pProgram (lexAll s).2 n (annot (lexAll s).1 0)=some (.ok (t,ts))):t.all Gm∧t.n.kind=1 :=
 (pProgram_t _ n _ _ _ (annot_tok _ 0 (lexAll_tokOk s)) h).1
theorem okName_len (x:Bytes) (h:okName x=true):x.length≤31∧x≠[]:=by
 unfold okName at h
 split at h
 ·rename_i t u f hl
  simp only[Bool.and_eq_true,beq_iff_eq]at h
  obtain⟨⟨h1,h2⟩,rfl⟩:=h
  have:∀(f:Nat) (s:Bytes) (a:Nat) (t:Tok),t∈(lexFrom f s a).1→t.kind=1→t.text.length≤31∧t.text≠[]:=by
   intro f
   induction f with
   | zero=>intro s a t ht;cases ht
   | succ f ih =>
    intro s a t ht hk
    cases s with
    | nil =>
     rw[lexFrom_nil]at ht
     obtain rfl:t=_:=by simpa using ht
     simp at hk
    | cons c s =>
     simp only[lexFrom]at ht
     split at ht
     ·exact ih _ _ t ht hk
     split at ht
     ·exact ih _ _ t ht hk
     cases hn:lexNext (c::s) with
     | error e=>rw[hn]at ht;cases ht
     | ok p =>
      obtain⟨u,k⟩:=p
      rw[hn]at ht
      rcases List.mem_cons.1 ht with rfl|ht
      ·show u.text.length≤31∧u.text≠[]
       have hk:u.kind=1:=hk
       unfold lexNext at hn
       simp only at hn
       split at hn
       ·rename_i hc
        obtain⟨h1,h2⟩:=run_take (fun c=>lower c||digit c) (c::s)
        have hn1:1≤run (fun c=>lower c||digit c) (c::s):=by unfold run;simp[hc]
        unfold lexName at hn
        simp only at hn
        split at hn
        ·cases hn
        rename_i h31
        repeat' split at hn
        all_goals cases hn
        all_goals first|(simp at hk;done)|skip
        refine⟨by simp only[h2];omega,fun e=>?_⟩
        have e:((c::s).take (run (fun c=>lower c||digit c) (c::s))).length=0:=by rw[show(c::s).take (run (fun c=>lower c||digit c) (c::s))=[]from e];rfl
        omega
       split at hn
       ·unfold lexDouble at hn
        split at hn
        ·cases hn;simp at hk
        ·cases hn
       split at hn
       ·unfold lexWhole at hn
        split at hn
        ·cases hn;simp at hk
        ·cases hn
       split at hn
       ·have:=lexQuoted_txt _ s (Nat.le_refl _) _ _ _ _ hn
        rw[this.1]at hk;simp at hk
       ·unfold lexMark at hn
        split at hn
        ·cases hn;simp at hk
        ·cases hn
      ·exact ih _ _ t ht hk
  unfold lexAll at hl
  split at hl
  ·cases hl
  ·exact this _ _ _ t (by rw[hl];simp) h2
 ·cases h
end Ck
end
