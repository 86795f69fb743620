/- A part of the proof. -/
import Derived.Test.YtoomapkcoibmhaaGreatDoorQ3
set_option maxRecDepth 100000
set_option maxHeartbeats 12800000
set_option linter.all false
section
namespace Ck
structure uE (t:Tok):Prop where
 name:t.kind=1→iF t.text=true
 whole:t.kind=4→0≤t.int∧t.int≤9223372036854775807
 bits:t.kind=5→(0≤t.bits∧t.bits≤oQ)∨t.bits=wT
 len:t.text.length≤65536
abbrev Sl (ts:TS):Prop:=∀x∈ts,uE x.1
def Ho {α:Type} (A:TS→Prop) (p:P α) (B:α→TS→Prop):Prop:=∀ts a ts',A ts→p ts=some (.ok (a,ts'))→B a ts'
abbrev aJ {α:Type} (Q:α→Prop) (p:P α):Prop:=Ho Sl p (fun a ts=>Q a∧Sl ts)
section
variable {α β:Type} {A:TS→Prop} {C:β→TS→Prop} {B:α→TS→Prop} {Q:α→Prop} {R:β→Prop}
theorem Ho.bind {x:P β} {f:β→P α} (hx:Ho A x C) (hf:∀b,Ho (C b) (f b) B):Ho A (x >>= f) B:=by
 intro ts a ts' hA h;obtain⟨b,t1,h1,h2⟩:=bind_ok h
 exact hf b _ _ _ (hx _ _ _ hA h1) h2
theorem aJ.bind {x:P β} {f:β→P α} (hx:aJ R x) (hf:∀b,R b→aJ Q (f b)):aJ Q (x >>= f) :=
 Ho.bind hx (fun b ts a ts' ⟨h1,h2⟩ h=>hf b h1 ts a ts' h2 h)
theorem aJ.pure {a:α} (h:Q a):aJ Q (pure a:P α):=by
 intro ts b ts' hA e;rw[aZ]at e
 simp only[Option.some.injEq,Except.ok.injEq,Prod.mk.injEq]at e;obtain⟨rfl,rfl⟩:=e
 exact⟨h,hA⟩
theorem Ho.fail (f:dS):Ho A (P.fail f:P α) B:=fun _ _ _ _ e=>by cases e
theorem Ho.out:Ho A (P.out:P α) B:=fun _ _ _ _ e=>by cases e
theorem Ho.ite {c:Prop} [Decidable c] {x y:P α} (hx:c→Ho A x B) (hy:¬c→Ho A y B):Ho A (if c then x else y) B:=by
 split
 ·rename_i h;exact hx h
 ·rename_i h;exact hy h
theorem Ho.pre {A':TS→Prop} {x:P α} (h:Ho A x B) (hA:∀ts,A' ts→A ts):Ho A' x B:=fun ts a ts' h1 h2=>h ts a ts' (hA ts h1) h2
variable {F:dS}
theorem vw:aJ uE (look F):=by
 intro ts a ts' hA h;unfold look at h;split at h
 ·rename_i t ht;cases h;unfold aW at ht;split at ht
  ·cases ht
  ·split at ht
   ·cases ht
   ·cases ht;exact⟨hA _ (List.mem_cons_self ..),hA⟩
 ·cases h
theorem Sm:aJ (fun _=>True) (og F):=by
 intro ts a ts' hA h;unfold og at h;split at h
 ·cases h;exact⟨trivial,hA⟩
 ·cases h
theorem qG:aJ (fun _=>True) oU:=by
 intro ts a ts' hA h;cases h;exact⟨trivial,fun x hx=>hA x (List.mem_of_mem_tail hx)⟩
theorem rC:Ho A (wrong F:P α) B:=by
 intro ts a ts' hA h;obtain⟨b,t1,h1,h2⟩:=bind_ok h
 cases h2
theorem sV (k:Int) (l:List Bytes):aJ (fun _=>True) (sees F k l):=aJ.bind vw fun t _=>aJ.pure trivial
def Head (k:Int) (l:List Bytes) (ts:TS):Prop:=∃t o r,ts=(t,o)::r∧t.kind=k∧l.contains t.text=true
theorem KV (k:Int) (l:List Bytes):Ho Sl (sees F k l) (fun b ts=>Sl ts∧(b=true→Head k l ts)):=by
 intro ts b ts' hA h;obtain⟨t,t1,h1,h2⟩:=bind_ok h
 unfold look at h1;split at h1
 ·rename_i t' ht;cases h1;cases h2;refine⟨hA,fun hb=>?_⟩;unfold aW at ht;split at ht
  ·cases ht
  ·split at ht
   ·cases ht
   ·cases ht;simp only[Bool.and_eq_true,beq_iff_eq]at hb;exact⟨_,_,_,rfl,hb.1,hb.2⟩
 ·cases h1
theorem nD (k:Int) (x:Bytes):aJ (fun _=>True) (skip F k x):=aJ.bind (sV k _) fun _ _=>Ho.ite (fun _=>aJ.bind qG fun _ _=>aJ.pure trivial) (fun _=>aJ.pure trivial)
theorem jQ (k:Int) (x:Bytes):aJ (fun _=>True) (must F k x):=aJ.bind vw fun _ _=>aJ.bind (nD k x) fun _ _=>Ho.ite (fun _=>aJ.pure trivial) (fun _=>rC)
theorem sW (k:Int):aJ (fun t=>uE t∧t.kind=k) (take F k):=aJ.bind vw fun t ht=>Ho.ite (fun h=>aJ.bind qG fun _ _=>aJ.pure ⟨ht,by simpa using h⟩) (fun _=>rC)
theorem QA (k:Int) (l:List Bytes):Ho (fun ts=>Sl ts∧Head k l ts) (take F k) (fun t ts=>(uE t∧l.contains t.text=true)∧Sl ts):=by
 rintro ts a ts' ⟨hA,t,o,r,rfl,h1,h2⟩ h;have h0:=sW (F:=F) k _ _ _ hA h;refine⟨⟨h0.1.1,?_⟩,h0.2⟩;obtain⟨t',t1,g1,g2⟩:=bind_ok h
 unfold look at g1;split at g1
 ·rename_i t2 ht;cases g1;unfold aW at ht;simp only at ht;split at ht
  ·cases ht
  ·cases ht;split at g2
   ·obtain⟨_,t3,g3,g4⟩:=bind_ok g2
    cases g4;exact h2
   ·obtain⟨_,t3,g3,g4⟩:=bind_ok g2
    cases g4
 ·cases g1
end
def tO (t:Tree):Prop:=18≤t.n.kind∧t.n.kind≤31
def Xj (t:Tree):Prop:=6≤t.n.kind∧t.n.kind≤17∧t.n.kind≠12
def Dn (t:Tree):Prop:=t.n.kind=5
def rD (n:Node):Prop:=n.int=0∧n.bits=0
def dK (n:Node):Prop:=n.text=[]∧n.int=0∧n.bits=0
def dI (n:Node):Prop:=iF n.text=true∧n.int=0∧n.bits=0
def BU (ks:List Tree):Prop:=∃e f,ks=[e,f]∧tO e∧tO f
def pq (ks:List Tree):Prop:=∃e,ks=[e]∧tO e
def dR (n:Node) (ks:List Tree):Prop :=
 if n.kind=1 then dK n∧∀t∈ks,t.n.kind=2∨t.n.kind=3
 else if n.kind=2 then dI n∧ks=[]
 else if n.kind=3 then dI n∧∃ps b,ks=ps++[b]∧(∀t∈ps,t.n.kind=4)∧Dn b
 else if n.kind=4 then dI n∧ks=[]
 else if n.kind=5 then dK n∧∀t∈ks,Xj t
 else if n.kind=6∨n.kind=7 then dI n∧pq ks
 else if n.kind=8 then dK n∧∃e f g,ks=[e,f,g]∧tO e∧tO f∧tO g
 else if n.kind=9 then dK n∧((∃e b,ks=[e,b]∧tO e∧Dn b)∨∃e b c,ks=[e,b,c]∧tO e∧Dn b∧(Dn c∨c.n.kind=9))
 else if n.kind=10 then(dI n∨dK n)∧∃e b,ks=[e,b]∧tO e∧Dn b
 else if n.kind=11 then dI n∧((∃e g b,ks=[e,g,b]∧tO e∧tO g∧Dn b)∨∃l e g b,ks=[l,e,g,b]∧l.n.kind=12∧tO e∧tO g∧Dn b)
 else if n.kind=12 then dI n∧ks=[]
 else if n.kind=13∨n.kind=14 then(dI n∨dK n)∧ks=[]
 else if n.kind=15 then dK n∧(ks=[]∨pq ks)
 else if n.kind=16∨n.kind=17 then dK n∧pq ks
 else if n.kind=18∨n.kind=19∨n.kind=24 then dK n∧BU ks
 else if n.kind=20 then dK n∧pq ks
 else if n.kind=21 then rD n∧binaries.contains n.text=true∧BU ks
 else if n.kind=22 then rD n∧(n.text=[45]∨n.text=[126])∧pq ks
 else if n.kind=23 then dI n∧∀t∈ks,tO t
 else if n.kind=25 then dI n∧ks=[]
 else if n.kind=26 then n.text=[]∧n.bits=0∧0≤n.int∧n.int≤9223372036854775807∧ks=[]
 else if n.kind=27 then n.text=[]∧n.int=0∧((0≤n.bits∧n.bits≤oQ)∨n.bits=wT)∧ks=[]
 else if n.kind=28 then rD n∧ks=[]
 else if n.kind=29∨n.kind=30∨n.kind=31 then dK n∧ks=[]
 else False
def Gm (n:Node) (ks:List Tree):Prop:=n.text.length≤65536∧dR n ks
def TE (t:Tree):Prop:=t.all Gm∧tO t
def NI (t:Tree):Prop:=t.all Gm∧Xj t
def TB (t:Tree):Prop:=t.all Gm∧Dn t
def T9 (t:Tree):Prop:=t.all Gm∧t.n.kind=9
theorem wD {P:Node→List Tree→Prop} {l:List Tree} (h:∀t∈l,t.all P):oH P l:=by
 induction l with
 | nil=>trivial
 | cons a l ih=>exact⟨h a (by simp),ih (fun t ht=>h t (by simp[ht]))⟩
theorem jI {k a:Int} {x:Bytes} {l:List Tree} (hx:x.length≤65536) (hg:dR ⟨k,a,0,x,0,0⟩ l) (hl:∀t∈l,t.all Gm):(leaf k a x l).all Gm:=⟨⟨hx,hg⟩,wD hl⟩
theorem QB {k a:Int} {x:Bytes} {l:List Tree} (hx:x.length≤65536) (hg:dR ⟨k,a,0,x,0,0⟩ l) (hl:∀t∈l,t.all Gm) (hk:18≤k∧k≤31):TE (leaf k a x l):=⟨jI hx hg hl,hk⟩
theorem mkS {k a:Int} {x:Bytes} {l:List Tree} (hx:x.length≤65536) (hg:dR ⟨k,a,0,x,0,0⟩ l) (hl:∀t∈l,t.all Gm) (hk:6≤k∧k≤17∧k≠12):NI (leaf k a x l):=⟨jI hx hg hl,hk⟩
structure Md (r:Rec):Prop where
 block:aJ TB r.block
 statement:aJ NI r.statement
 choice:aJ T9 r.choice
 loop:∀l,(∀t,l=some t→uE t∧t.kind=1)→aJ NI (r.loop l)
 expr:aJ TE r.expr
 and':aJ TE r.and'
 not':aJ TE r.not'
 level:∀k,aJ TE (r.level k)
 unary:aJ TE r.unary
 primary:aJ TE r.primary
section
variable {F:dS} {r:Rec} (h:Md r)
include h
theorem Me:∀n e,TE e→aJ TE (vF F r n e)
 | 0,_,_=>Ho.out
 | n+1,e,he=>aJ.bind (sV _ _) fun _ _=>Ho.ite (fun _=>aJ.bind (jQ _ _) fun a _=>aJ.bind h.and' fun f hf=>Me n _ (QB (by simp) (by simp[dR,and_assoc,dK,BU,he.2,hf.2]) (by simp[he.1,hf.1]) (by decide))) (fun _=>aJ.pure he)
theorem QC:∀n e,TE e→aJ TE (ED F r n e)
 | 0,_,_=>Ho.out
 | n+1,e,he=>aJ.bind (sV _ _) fun _ _=>Ho.ite (fun _=>aJ.bind (jQ _ _) fun a _=>aJ.bind h.not' fun f hf=>QC n _ (QB (by simp) (by simp[dR,and_assoc,dK,BU,he.2,hf.2]) (by simp[he.1,hf.1]) (by decide))) (fun _=>aJ.pure he)
theorem QD (e:Tree) (k:Nat) (l:List Bytes) (hl:∀x,l.contains x=true→binaries.contains x=true) (he:TE e):Ho (fun ts=>Sl ts∧Head 3 l ts) (zF F r e k) (fun a ts=>TE a∧Sl ts) :=
 Ho.bind (QA 3 l) fun t=>fun ts a ts' ⟨h1,h2⟩ hh=>(aJ.bind (Q:=TE) (h.level k) fun f hf=>aJ.pure (QB h1.1.len (by simp only[dR];exact⟨⟨rfl,rfl⟩,hl _ h1.2,e,f,rfl,he.2,hf.2⟩) (by simp[he.1,hf.1]) (by decide))) ts a ts' h2 hh
theorem KW {k:Nat} {l:List Bytes} (hl:levels[k]? = some l):∀x,l.contains x=true→binaries.contains x=true:=by
 have:∀m∈levels,∀x∈m,binaries.contains x=true:=by decide
 intro x hx;exact this l (List.mem_of_getElem? hl) x (by simpa using hx)
theorem IC (k:Nat) (l:List Bytes) (hl:∀x,l.contains x=true→binaries.contains x=true):∀n e,TE e→aJ TE (qN F r k l n e)
 | 0,_,_=>Ho.out
 | n+1,e,he=>Ho.bind (KV 3 l) fun b=>by
   cases b with
   | true=>exact Ho.pre (Ho.bind (QD h e (k+1) l hl he) fun e' ts a ts' ⟨h1,h2⟩ hh=>IC k l hl n e' h1 ts a ts' h2 hh) (fun ts ht=>⟨ht.1,ht.2 rfl⟩)
   | false=>exact Ho.pre (aJ.pure he) (fun ts ht=>ht.1)
theorem IE:∀n e,TE e→aJ TE (qO F r n e)
 | 0,_,_=>Ho.out
 | n+1,e,he=>aJ.bind (sV _ _) fun _ _=>Ho.ite (fun _=>aJ.bind (jQ _ _) fun a _=>aJ.bind h.expr fun f hf=>aJ.bind (jQ _ _) fun _ _=>IE n _ (QB (by simp) (by simp[dR,and_assoc,dK,BU,he.2,hf.2]) (by simp[he.1,hf.1]) (by decide))) (fun _=>aJ.pure he)
theorem UE:aJ TE (Mv F r):=by
 unfold Mv;refine aJ.bind (sV _ _) fun _ _=>Ho.ite (fun _=>?_) (fun _=>?_)
 ·exact aJ.bind (jQ _ _) fun a _=>aJ.bind h.not' fun e he=>aJ.pure (QB (by simp) (by simp[dR,and_assoc,dK,pq,he.2]) (by simp[he.1]) (by decide))
 ·refine aJ.bind (h.level 0) fun e he=>Ho.bind (KV 3 _) fun b=>?_
  cases b with
  | true=>exact Ho.pre (QD h e 0 _ (fun x hx=>by
    have:∀y∈([[61,61],[33,61],[60],[60,61],[62],[62,61]]:List Bytes),binaries.contains y=true:=by decide
    exact this x (by simpa using hx)) he) (fun ts ht=>⟨ht.1,ht.2 rfl⟩)
  | false=>exact Ho.pre (aJ.pure he) (fun ts ht=>ht.1)
theorem QE (n k:Nat):aJ TE (lN F r n k):=by
 unfold lN;split
 ·exact h.unary
 ·rename_i l hl;exact aJ.bind (h.level (k+1)) fun e he=>IC h k l (KW h hl) n e he
theorem QF (n:Nat):aJ TE (wU F r n):=by
 unfold wU;refine Ho.bind (KV 3 _) fun b=>?_
 cases b with
 | true =>
  refine Ho.pre (Ho.bind (QA 3 [[45],[126]]) fun t=>?_) (fun ts ht=>⟨ht.1,ht.2 rfl⟩);intro ts a ts' ⟨h1,h2⟩ hh;exact(aJ.bind (Q:=TE) h.unary fun e he=>aJ.pure (QB h1.1.len (by simp only[dR];have:=h1.2;simpa[rD,pq,he.2]using this) (by simp[he.1]) (by decide))) ts a ts' h2 hh
 | false=>exact Ho.pre (aJ.bind h.primary fun e he=>IE h n e he) (fun ts ht=>ht.1)
theorem Mf:∀n ks,(∀t∈ks,TE t)→aJ (fun ks=>∀t∈ks,TE t) (vG F r n ks)
 | 0,_,_=>Ho.out
 | n+1,ks,hk=>aJ.bind h.expr fun e he=>by
   have hk2:∀t∈ks++[e],TE t:=by
    intro t ht;rcases List.mem_append.1 ht with ht|ht
    ·exact hk t ht
    ·obtain rfl:t=e:=by simpa using ht
     exact he
   exact aJ.bind (nD _ _) fun _ _=>Ho.ite (fun _=>Mf n _ hk2) (fun _=>aJ.bind (jQ _ _) fun _ _=>aJ.pure hk2)
theorem KX (n:Nat):aJ TE (jS F r n):=by
 unfold jS;refine aJ.bind vw fun t ht=>?_
 refine Ho.ite (fun hk=>aJ.bind qG fun _ _=>aJ.pure ?_) fun _=>?_
 ·have:=ht.whole (by simpa using hk)
  exact⟨⟨⟨by simp,by simp[dR,this.1,this.2]⟩,trivial⟩,(by decide:(18:Int)≤26),(by decide:(26:Int)≤31)⟩
 refine Ho.ite (fun hk=>aJ.bind qG fun _ _=>aJ.pure ?_) fun _=>?_
 ·have:=ht.bits (by simpa using hk)
  exact⟨⟨⟨by simp,by simpa[dR]using this⟩,trivial⟩,(by decide:(18:Int)≤27),(by decide:(27:Int)≤31)⟩
 refine Ho.ite (fun hk=>aJ.bind qG fun _ _=>aJ.pure (QB ht.len (by simp[dR,and_assoc,rD]) (by simp) (by decide))) fun _=>?_
 refine Ho.ite (fun hk=>?_) fun _=>?_
 ·split
  ·rename_i k hk2
   have hk3:k=29∨k=30∨k=31:=by
    unfold gY at hk2;split at hk2
    ·cases hk2;simp
    ·split at hk2
     ·cases hk2;simp
     ·split at hk2
      ·cases hk2;simp
      ·cases hk2
   refine aJ.bind qG fun _ _=>aJ.pure (QB (by simp) ?_ (by simp) ?_)
   ·rcases hk3 with rfl|rfl|rfl<;>simp[dR,and_assoc,dK]
   ·rcases hk3 with rfl|rfl|rfl<;>decide
  ·exact rC
 refine Ho.ite (fun hk=>?_) fun _=>?_
 ·have hn:=ht.name (by simpa using hk);refine aJ.bind qG fun _ _=>aJ.bind (nD _ _) fun _ _=>Ho.ite (fun _=>?_) (fun _=>aJ.pure (QB ht.len (by simp[dR,and_assoc,dI,hn]) (by simp) (by decide)))
  refine aJ.bind (nD _ _) fun _ _=>Ho.ite (fun _=>aJ.pure (QB ht.len (by simp[dR,and_assoc,dI,hn]) (by simp) (by decide))) (fun _=>?_)
  exact aJ.bind (Mf h n [] (by simp)) fun ks hks=>aJ.pure (QB ht.len (by simp only[dR];simpa[dI,hn]using fun t ht=>(hks t ht).2) (fun t ht=>(hks t ht).1) (by decide))
 refine Ho.ite (fun hk=>?_) fun _=>rC
 exact aJ.bind (nD _ _) fun _ _=>Ho.ite (fun _=>aJ.bind h.expr fun e he=>aJ.bind (jQ _ _) fun _ _=>aJ.pure he) (fun _=>rC)
theorem IG:∀n ks,(∀t∈ks,NI t)→aJ (fun ks=>∀t∈ks,NI t) (rU F r n ks)
 | 0,_,_=>Ho.out
 | n+1,ks,hk=>aJ.bind (nD _ _) fun _ _=>Ho.ite (fun _=>aJ.pure hk) (fun _=>aJ.bind h.statement fun e he=>IG n _ (by
   intro t ht;rcases List.mem_append.1 ht with ht|ht
   ·exact hk t ht
   ·obtain rfl:t=e:=by simpa using ht
    exact he))
theorem QG (n:Nat):aJ TB (uI F r n):=by
 unfold uI;exact aJ.bind (jQ _ _) fun a _=>aJ.bind (IG h n [] (by simp)) fun ks hks=>aJ.pure ⟨jI (by simp) (by simp only[dR];simpa[dK]using fun t ht=>(hks t ht).2) (fun t ht=>(hks t ht).1),rfl⟩
omit h in
theorem rE {t:Tree} (ht:NI t):aJ NI (mO F t):=aJ.bind (jQ _ _) fun _ _=>aJ.pure ht
theorem II:aJ NI (mX F r):=by
 unfold mX;refine aJ.bind h.expr fun e he=>?_
 have Xk:aJ NI (mO F (leaf 17 e.n.at' [] [e])):=rE (mkS (by simp) (by simp[dR,and_assoc,dK,pq,he.2]) (by simp[he.1]) (by decide));refine Ho.ite (fun hk=>?_) fun _=>Xk
 refine aJ.bind (nD _ _) fun _ _=>Ho.ite (fun _=>?_) fun _=>Xk
 refine aJ.bind h.expr fun v hv=>?_
 obtain⟨n,ks⟩:=e
 obtain⟨⟨⟨hl,hg⟩,hks⟩,hE⟩:=he
 refine Ho.ite (fun hk5=>?_) fun hk5=>?_
 ·have Gh:n.kind=25:=by simpa[Tree.n]using hk5
  simp[dR,and_assoc,Gh]at hg
  exact rE (mkS hl (by simp[dR,and_assoc,pq,hv.2,Tree.n];exact⟨hg.1.1,rfl,rfl⟩) (by simp[hv.1]) (by decide))
 ·have Cu:n.kind=24:=by
   simp[Tree.n]at hk hk5
   rcases hk with hk|hk
   ·exact absurd hk hk5
   ·exact hk
  simp[dR,and_assoc,Cu]at hg
  obtain⟨_,e1,f1,rfl,g1,g2⟩:=hg
  have a1:=dN hks e1 (by simp);have a2:=dN hks f1 (by simp);exact rE (mkS (by simp) (by simp[dR,and_assoc,dK,Tree.ks,g1,g2,hv.2]) (by simp[Tree.ks,a1,a2,hv.1]) (by decide))
theorem Sn (label:Option Tok) (hlab:∀t,label=some t→uE t∧t.kind=1):aJ NI (zD F r label):=by
 unfold zD;refine aJ.bind (sW _) fun t ht=>Ho.ite (fun _=>?_) fun _=>?_
 ·refine aJ.bind h.expr fun e he=>aJ.bind h.block fun b hb=>aJ.pure ?_
  cases label with
  | none=>exact mkS (by simp) (by simp[dR,and_assoc,dK,he.2,hb.2]) (by simp[he.1,hb.1]) (by decide)
  | some l =>
   obtain⟨h1,h2⟩:=hlab l rfl
   exact mkS h1.len (by simp[dR,and_assoc,dI,h1.name h2,he.2,hb.2]) (by simp[he.1,hb.1]) (by decide)
 ·refine aJ.bind (sW _) fun v hv=>aJ.bind (jQ _ _) fun _ _=>aJ.bind h.expr fun e he=>aJ.bind (jQ _ _) fun _ _=>aJ.bind h.expr fun g hg=>aJ.bind h.block fun b hb=>aJ.pure ?_
  have hvn:=hv.1.name hv.2;cases label with
  | none=>exact mkS hv.1.len (by simp[dR,and_assoc,dI,hvn,he.2,hg.2,hb.2]) (by simp[he.1,hg.1,hb.1]) (by decide)
  | some l =>
   obtain⟨h1,h2⟩:=hlab l rfl
   have hlf:(leaf 12 l.at' l.text []).all Gm:=jI h1.len (by simp[dR,and_assoc,dI,h1.name h2]) (by simp);exact mkS hv.1.len (by simp[dR,and_assoc,dI,hvn,he.2,hg.2,hb.2,leaf,Tree.n]) (by simp[hlf,he.1,hg.1,hb.1]) (by decide)
theorem NJ:aJ T9 (qM F r):=by
 unfold qM;refine aJ.bind (jQ _ _) fun a _=>aJ.bind h.expr fun e he=>aJ.bind h.block fun b hb=>aJ.bind (nD _ _) fun _ _=>Ho.ite (fun _=>?_) fun _=>?_
 ·refine aJ.bind (sV _ _) fun _ _=>Ho.ite (fun _=>?_) fun _=>?_
  ·exact aJ.bind h.choice fun c hc=>aJ.pure ⟨jI (by simp) (by simp[dR,and_assoc,dK,he.2,hb.2,hc.2]) (by simp[he.1,hb.1,hc.1]),rfl⟩
  ·exact aJ.bind h.block fun c hc=>aJ.pure ⟨jI (by simp) (by simp[dR,and_assoc,dK,he.2,hb.2,hc.2]) (by simp[he.1,hb.1,hc.1]),rfl⟩
 ·exact aJ.pure ⟨jI (by simp) (by simp[dR,and_assoc,dK,he.2,hb.2]) (by simp[he.1,hb.1]),rfl⟩
theorem FZ:aJ NI (iP F r):=by
 unfold iP;refine aJ.bind vw fun t ht=>?_
 refine aJ.bind (R:=fun c=>c=true→t.kind=1) ?_ fun c hc=>?_
 ·refine Ho.ite (fun hk=>?_) fun _=>aJ.pure (by simp)
  exact aJ.bind Sm fun c _=>aJ.pure (fun _=>by simpa using hk)
 refine Ho.ite (fun hct=>?_) fun _=>?_
 ·refine aJ.bind qG fun _ _=>aJ.bind qG fun _ _=>aJ.bind (sV _ _) fun _ _=>Ho.ite (fun _=>?_) fun _=>rC
  exact h.loop _ (fun t' e=>by cases e;exact⟨ht,hc hct⟩)
 refine Ho.ite (fun _=>?_) fun _=>II h
 refine Ho.ite (fun _=>?_) fun _=>?_
 ·exact aJ.bind qG fun _ _=>aJ.bind (sW _) fun n hn=>aJ.bind (jQ _ _) fun _ _=>aJ.bind h.expr fun e he=>rE (mkS hn.1.len (by simp[dR,and_assoc,dI,hn.1.name hn.2,pq,he.2]) (by simp[he.1]) (by decide))
 refine Ho.ite (fun _=>?_) fun _=>?_
 ·intro ts a ts' hA hh;obtain⟨h1,h2⟩:=h.choice ts a ts' hA hh
  exact⟨⟨h1.1,by unfold Xj;rw[h1.2];decide⟩,h2⟩
 refine Ho.ite (fun _=>h.loop none (fun t e=>by cases e)) fun _=>?_
 refine Ho.ite (fun _=>?_) fun _=>?_
 ·refine aJ.bind qG fun _ _=>aJ.bind vw fun c hc=>?_
  have hk:∀k:Int,k=(if t.text==[99,111,110,116,105,110,117,101]then 14 else 13)→k=13∨k=14:=fun k e=>by subst e;split<;>simp
  have hk:=hk _ rfl;refine Ho.ite (fun _=>?_) fun _=>?_
  ·refine aJ.bind (sW _) fun l hl=>rE ?_
   have hn:=hl.1.name hl.2;rcases hk with hk|hk<;>rw[hk]<;>exact mkS hl.1.len (by simp[dR,and_assoc,dI,hn]) (by simp) (by decide)
  ·refine rE ?_;rcases hk with hk|hk<;>rw[hk]<;>exact mkS (by simp) (by simp[dR,and_assoc,dK]) (by simp) (by decide)
 refine Ho.ite (fun _=>?_) fun _=>?_
 ·refine aJ.bind qG fun _ _=>aJ.bind (sV _ _) fun _ _=>Ho.ite (fun _=>rE (mkS (by simp) (by simp[dR,and_assoc,dK]) (by simp) (by decide))) fun _=>?_
  exact aJ.bind h.expr fun e he=>rE (mkS (by simp) (by simp[dR,and_assoc,dK,pq,he.2]) (by simp[he.1]) (by decide))
 refine Ho.ite (fun _=>?_) fun _=>II h
 exact aJ.bind qG fun _ _=>aJ.bind h.expr fun e he=>rE (mkS (by simp) (by simp[dR,and_assoc,dK,pq,he.2]) (by simp[he.1]) (by decide))
theorem UF (n:Nat):Md (step F r n) where
 block:=QG h n
 statement:=FZ h
 choice:=NJ h
 loop l hl:=Sn h l hl
 expr:=aJ.bind h.and' fun e he=>Me h n e he
 and':=aJ.bind h.not' fun e he=>QC h n e he
 not':=UE h
 level k:=QE h n k
 unary:=QF h n
 primary:=KX h n
end
theorem QH (F:dS):∀n,Md (recs F n)
 | 0=>⟨Ho.out,Ho.out,Ho.out,fun _ _=>Ho.out,Ho.out,Ho.out,Ho.out,fun _=>Ho.out,Ho.out,Ho.out⟩
 | n+1=>UF (QH F n) n
section
variable {F:dS} {r:Rec} (h:Md r)
theorem Es:∀n ks,(∀t∈ks,t.all Gm∧t.n.kind=4)→aJ (fun ks=>∀t∈ks,t.all Gm∧t.n.kind=4) (nJ F n ks)
 | 0,_,_=>Ho.out
 | n+1,ks,hk=>aJ.bind (sW _) fun t ht=>by
   have hk2:∀u∈ks++[leaf 4 t.at' t.text []],u.all Gm∧u.n.kind=4:=by
    intro u hu;rcases List.mem_append.1 hu with hu|hu
    ·exact hk u hu
    ·obtain rfl:u=_:=by simpa using hu
     exact⟨jI ht.1.len (by simp[dR,and_assoc,dI,ht.1.name ht.2]) (by simp),rfl⟩
   exact aJ.bind (nD _ _) fun _ _=>Ho.ite (fun _=>Es n _ hk2) (fun _=>aJ.bind (jQ _ _) fun _ _=>aJ.pure hk2)
include h
theorem IJ (n:Nat):aJ (fun t=>t.all Gm∧t.n.kind=3) (iD F r n):=by
 unfold iD;refine aJ.bind (sW _) fun t ht=>aJ.bind (jQ _ _) fun _ _=>?_
 refine aJ.bind (R:=fun ks=>∀t∈ks,t.all Gm∧t.n.kind=4) (aJ.bind (nD _ _) fun _ _=>Ho.ite (fun _=>aJ.pure (by simp)) fun _=>Es n [] (by simp)) fun ps hps=>?_
 refine aJ.bind h.block fun b hb=>aJ.pure ⟨jI ht.1.len ?_ ?_,rfl⟩
 ·simp only[dR];exact⟨⟨ht.1.name ht.2,rfl,rfl⟩,ps,b,rfl,fun t ht=>(hps t ht).2,hb.2⟩
 ·intro t ht;rcases List.mem_append.1 ht with ht|ht
  ·exact(hps t ht).1
  ·obtain rfl:t=b:=by simpa using ht
   exact hb.1
theorem vB (m:Nat):∀n ks,(∀t∈ks,t.all Gm∧(t.n.kind=2∨t.n.kind=3))→aJ (fun ks=>∀t∈ks,t.all Gm∧(t.n.kind=2∨t.n.kind=3)) (jT F r m n ks)
 | 0,_,_=>Ho.out
 | n+1,ks,hk=>aJ.bind vw fun t ht=>Ho.ite (fun _=>aJ.pure hk) fun _=>by
   refine aJ.bind (nD _ _) fun _ _=>Ho.ite (fun _=>?_) fun _=>?_
   ·refine aJ.bind (sW _) fun t ht=>aJ.bind (jQ _ _) fun _ _=>vB m n _ ?_
    intro u hu;rcases List.mem_append.1 hu with hu|hu
    ·exact hk u hu
    ·obtain rfl:u=_:=by simpa using hu
     exact⟨jI ht.1.len (by simp[dR,and_assoc,dI,ht.1.name ht.2]) (by simp),.inl rfl⟩
   refine aJ.bind (nD _ _) fun _ _=>Ho.ite (fun _=>?_) fun _=>rC
   refine aJ.bind (IJ h m) fun f hf=>vB m n _ ?_
   intro u hu;rcases List.mem_append.1 hu with hu|hu
   ·exact hk u hu
   ·obtain rfl:u=f:=by simpa using hu
    exact⟨hf.1,.inr hf.2⟩
end
theorem KY (F:dS) (n:Nat):aJ (fun t=>t.all Gm∧t.n.kind=1) (fU F n):=by
 unfold fU;exact aJ.bind (vB (QH F n) n n [] (by simp)) fun ks hks=>aJ.pure ⟨jI (by simp) (by simp only[dR];simpa[dK]using fun t ht=>(hks t ht).2) (fun t ht=>(hks t ht).1),rfl⟩
theorem KZ (m:Nat) (e b:Int) (h:qL m e=some b):0≤b∧b≤oQ:=by
 unfold qL at h;simp only at h;generalize hm:m/2 ^ Cy 64 m=m0 at h;generalize e+(Cy 64 m:Nat)=E at h;generalize hn:(if m0==0 then 0 else m0.log2+1)=n at h
 have hlt:m0<2 ^ n:=by
  rw[←hn];split
  ·rename_i h0;have:=beq_iff_eq.1 h0;omega
  ·exact Nat.lt_log2_self
 unfold oQ;split at h
 ·cases h
 ·rename_i c1;simp only[Bool.or_eq_true,decide_eq_true_eq]at c1;split at h
  ·rename_i c4;obtain rfl:=Option.some.inj h;obtain⟨k,hk⟩:∃k:Nat,(E+1074).toNat=k:=⟨_,rfl⟩
   rw[hk]
   have h2:m0*2 ^ k<2 ^ 52:=by
    have:m0*2 ^ k<2 ^ n*2 ^ k:=Nat.mul_lt_mul_of_pos_right hlt (Nat.pos_of_ne_zero (by simp))
    rw[←Nat.pow_add]at this
    exact Nat.lt_of_lt_of_le this (Nat.pow_le_pow_right (by omega) (by omega))
   omega
  ·obtain rfl:=Option.some.inj h
   have:=Nat.mod_lt (m0*2 ^ (53-n)) (y:=2 ^ 52) (by decide)
   have e52:(2:Nat) ^ 52=4503599627370496:=by decide
   have UG:(2:Int) ^ 52=4503599627370496:=by decide
   rw[e52]at this
   rw[e52,UG];generalize m0*2 ^ (53-n)%4503599627370496=y at this;omega
theorem NK (l:List Nat) (e b:Int) (h:exact l e=some b):0≤b∧b≤oQ:=by
 unfold exact at h;simp only at h;split at h
 ·obtain rfl:=Option.some.inj h;unfold oQ;omega
 ·split at h
  ·cases h
  ·exact KZ _ _ _ h
theorem Dp (ok:Bool) (l:List Nat) (p:Nat) (s:Bytes) (b:Int) (h:dF ok l p s=.ok b):0≤b∧b≤oQ:=by
 unfold dF at h;split at h
 ·split at h
  ·cases h
  ·split at h
   ·rename_i he;cases h;exact NK _ _ _ he
   ·cases h
 ·cases h
theorem F3 (s:Bytes) (b:Int) (h:jR s=.ok b):0≤b∧b≤oQ:=by
 unfold jR at h;split at h<;>exact Dp _ _ _ _ _ h
theorem BX (s:Bytes) (b:Int) (hs:s.head?≠some 45) (h:bD s=.ok b):(0≤b∧b≤oQ)∨b=wT:=by
 unfold bD at h;split at h
 ·cases h
 split at h
 ·cases h;exact .inr rfl
 split at h
 ·cases h;exact .inl (by unfold oQ;omega)
 split at h
 ·rename_i h3;rw[beq_iff_eq.1 h3]at hs
  exact absurd rfl hs
 split at h
 ·exact .inl (F3 _ _ h)
 ·exact absurd rfl hs
 ·cases h
theorem BZ (p:UInt8→Bool):∀s:Bytes,run p (s.take (run p s))=run p s∧(s.take (run p s)).length=run p s
 | []=>⟨rfl,rfl⟩
 | c::s=>by
  obtain⟨h1,h2⟩:=BZ p s
  unfold run;by_cases hc:p c=true
  ·simp only[hc,if_true,List.take_succ_cons,List.length_cons,h2];simp[run,hc,h1]
  ·simp[hc,run]
theorem uF:∀(k:Nat) (s:Bytes),s.length≤k→∀(b:Bytes) (n:Nat) (t:Tok) (m:Nat),aS s b n=.ok (t,m)→t.kind=6∧t.text.length≤b.length+s.length:=by
 intro k
 induction k with
 | zero =>
  intro s hs b n t m h;obtain rfl:s=[]:=List.eq_nil_of_length_eq_zero (by omega);cases h
 | succ k ih =>
  intro s hs b n t m h;cases s with
  | nil=>cases h
  | cons c s =>
   simp only[List.length_cons]at hs ⊢;unfold aS at h;split at h
   ·cases h;exact⟨rfl,by simp⟩
   split at h
   ·have:=ih s (by omega) _ _ _ _ h
    simp at this;exact⟨this.1,by omega⟩
   split at h
   ·cases h
   split at h
   ·cases h
   ·rename_i d s';simp only[List.length_cons]at hs ⊢;split at h
    ·have:=ih s' (by omega) _ _ _ _ h
     simp at this;exact⟨this.1,by omega⟩
    split at h
    ·have:=ih s' (by omega) _ _ _ _ h
     simp at this;exact⟨this.1,by omega⟩
    split at h
    ·rename_i x y s'';simp only[List.length_cons]at hs ⊢;split at h
     ·have:=ih s'' (by omega) _ _ _ _ h
      simp at this;exact⟨this.1,by omega⟩
     ·cases h
    ·cases h
theorem QI {c:UInt8} (h:digit c=true):c≠45:=by
 rintro rfl;exact absurd h (by decide)
theorem IK {c:UInt8} (h:lower c=true):(c==32||c==9||c==10)=false∧(c==35)=false:=by
 constructor
 ·rw[Bool.eq_false_iff];intro h2;simp only[Bool.or_eq_true,beq_iff_eq]at h2;rcases h2 with(rfl|rfl)|rfl<;>exact absurd h (by decide)
 ·rw[Bool.eq_false_iff];intro h2;rw[beq_iff_eq]at h2
  subst h2;exact absurd h (by decide)
theorem NM (c:UInt8) (s:Bytes) (t:Tok) (k:Nat) (hc:lower c=true) (h:gq (c::s)=.ok (t,k)) (hk:t.kind=1):iF t.text=true:=by
 obtain⟨h1,h2⟩:=BZ (fun c=>lower c||digit c) (c::s)
 unfold gq at h;simp only at h;generalize hn:run (fun c=>lower c||digit c) (c::s)=n at h h1 h2;have hn1:1≤n:=by rw[←hn];unfold run;simp[hc]
 generalize ht:(c::s).take n=x at h h1 h2;split at h
 ·cases h
 rename_i h31;split at h
 ·cases h;simp at hk
 rename_i e1;split at h
 ·cases h;simp at hk
 rename_i e2;split at h
 ·cases h;simp at hk
 rename_i e3;cases h;obtain⟨m,rfl⟩:∃m,k=m+1:=⟨k-1,by omega⟩
 obtain⟨y,rfl⟩:∃y,x=c::y:=⟨s.take m,by rw[←ht];rfl⟩
 obtain⟨p1,p2⟩:=IK hc
 have hl:bM (c::y)=.ok (⟨1,0,c::y,0,0⟩,m+1):=by
  unfold bM;simp only[hc,if_true];unfold gq;simp only[h1];rw[if_neg h31]
  have:(c::y).take (m+1)=c::y:=List.take_of_length_le (by omega)
  rw[this,if_neg e1,if_neg e2,if_neg e3]
 show iF (c::y)=true;have hlen:y.length=m:=by simpa using h2
 have hall:aM (c::y)=([⟨1,0,c::y,0,0⟩,⟨7,((m+1:Nat):Int),[],0,0⟩],⟨0,0⟩):=by
  unfold aM;rw[if_neg (by simp;omega)];rw[List.length_cons,rX _ _ _ _ p1 p2 _ _ hl]
  have:(c::y).drop (m+1)=[]:=List.drop_of_length_le (by simp;omega)
  rw[this,pF];simp
 unfold iF;rw[hall];simp
theorem IL (c:UInt8) (s:Bytes) (t:Tok) (k:Nat) (hs:s.length+1≤65536) (h:bM (c::s)=.ok (t,k)):uE t:=by
 unfold bM at h;simp only at h;split at h
 ·rename_i hc;refine⟨fun hk=>NM c s t k hc h hk,fun hk=>?_,fun hk=>?_,?_⟩
  all_goals
   unfold gq at h;simp only at h;split at h
   ·cases h
   rename_i h31
   repeat' split at h
   all_goals cases h
  all_goals first|(simp at hk;done)|exact .inr rfl|exact .inl ⟨by decide,by decide⟩|(simp;done)|(simp;omega)
 split at h
 ·rename_i hp;unfold aP at h;split at h
  ·rename_i b hb;cases h;refine⟨fun hk=>by simp at hk,fun hk=>by simp at hk,fun _=>BX _ _ ?_ hb,by simp⟩
   have hc:c=48:=by
    obtain⟨u,hu⟩:=List.isPrefixOf_iff_prefix.1 hp
    simp at hu;exact hu.1.symm
   subst hc;generalize bW (48::s)=z;cases z<;>simp
  ·cases h
 split at h
 ·rename_i hd;unfold jD at h;split at h
  ·rename_i i hi;cases h;refine⟨fun hk=>by simp at hk,fun _=>?_,fun hk=>by simp at hk,by simp⟩;show 0≤i∧i≤9223372036854775807;have hz:∃z,run digit (c::s)=z+1:=⟨run digit s,by simp[run,hd]⟩
   obtain⟨z,hz⟩:=hz
   rw[hz,List.take_succ_cons]at hi
   unfold bN at hi;split at hi
   ·cases hi
   split at hi
   ·rename_i d he;injection he with he _;exact absurd he (QI hd)
   ·unfold rT at hi;split at hi
    ·cases hi
    split at hi
    ·cases hi
    split at hi
    ·cases hi
    ·rename_i hle;cases hi;omega
  ·cases h
 split at h
 ·have:=uF _ s (Nat.le_refl _) _ _ _ _ h
  refine⟨fun hk=>?_,fun hk=>?_,fun hk=>?_,by have:=this.2;simp at this;omega⟩<;>(rw[this.1]at hk;simp at hk)
 ·unfold jv at h;split at h
  ·rename_i m hm;cases h;refine⟨fun hk=>by simp at hk,fun hk=>by simp at hk,fun hk=>by simp at hk,?_⟩;have h1:=List.mem_of_find?_eq_some hm;have h2:∀m∈marks,m.length≤65536:=by decide
   exact h2 m h1
  ·cases h
theorem Dq:∀(f:Nat) (s:Bytes) (a:Nat),s.length≤65536→∀t∈(lexFrom f s a).1,uE t:=by
 intro f
 induction f with
 | zero=>intro s a hs t ht;cases ht
 | succ f ih =>
  intro s a hs t ht;cases s with
  | nil =>
   rw[pF]at ht
   obtain rfl:t=_:=by simpa using ht
   exact⟨fun hk=>by simp at hk,fun hk=>by simp at hk,fun hk=>by simp at hk,by simp⟩
  | cons c s =>
   simp only[List.length_cons]at hs;simp only[lexFrom]at ht;split at ht
   ·exact ih _ _ (by omega) t ht
   split at ht
   ·exact ih _ _ (by simp;omega) t ht
   cases hn:bM (c::s) with
   | error e=>rw[hn]at ht;cases ht
   | ok p =>
    obtain⟨u,k⟩:=p
    rw[hn]at ht
    rcases List.mem_cons.1 ht with rfl|ht
    ·have:=IL c s u k hs hn
     exact⟨this.name,this.whole,this.bits,this.len⟩
    ·exact ih _ _ (by simp;omega) t ht
theorem F4 (s:Bytes):∀t∈(aM s).1,uE t:=by
 unfold aM;split
 ·intro t ht;cases ht
 ·exact Dq _ _ _ (by omega)
theorem Et:∀(l:List Tok) (n:Int),(∀t∈l,uE t)→Sl (iM l n)
 | [],_,_=>fun x hx=>by cases hx
 | t::l,n,h=>fun x hx=>by
  simp only[iM]at hx;rcases List.mem_cons.1 hx with rfl|hx
  ·exact h t (by simp)
  ·exact Et l _ (fun u hu=>h u (by simp[hu])) x hx
theorem yP (s:Bytes) (n:Nat) (t:Tree) (ts:TS) (h:fU (aM s).2 n (iM (aM s).1 0)=some (.ok (t,ts))):t.all Gm∧t.n.kind=1 :=
 (KY _ n _ _ _ (Et _ 0 (F4 s)) h).1
theorem AL (x:Bytes) (h:iF x=true):x.length≤31∧x≠[]:=by
 unfold iF at h;split at h
 ·rename_i t u f hl;simp only[Bool.and_eq_true,beq_iff_eq]at h;obtain⟨⟨h1,h2⟩,rfl⟩:=h
  have:∀(f:Nat) (s:Bytes) (a:Nat) (t:Tok),t∈(lexFrom f s a).1→t.kind=1→t.text.length≤31∧t.text≠[]:=by
   intro f
   induction f with
   | zero=>intro s a t ht;cases ht
   | succ f ih =>
    intro s a t ht hk;cases s with
    | nil =>
     rw[pF]at ht
     obtain rfl:t=_:=by simpa using ht
     simp at hk
    | cons c s =>
     simp only[lexFrom]at ht;split at ht
     ·exact ih _ _ t ht hk
     split at ht
     ·exact ih _ _ t ht hk
     cases hn:bM (c::s) with
     | error e=>rw[hn]at ht;cases ht
     | ok p =>
      obtain⟨u,k⟩:=p
      rw[hn]at ht
      rcases List.mem_cons.1 ht with rfl|ht
      ·show u.text.length≤31∧u.text≠[];have hk:u.kind=1:=hk;unfold bM at hn;simp only at hn;split at hn
       ·rename_i hc;obtain⟨h1,h2⟩:=BZ (fun c=>lower c||digit c) (c::s)
        have hn1:1≤run (fun c=>lower c||digit c) (c::s):=by unfold run;simp[hc]
        unfold gq at hn;simp only at hn;split at hn
        ·cases hn
        rename_i h31
        repeat' split at hn
        all_goals cases hn
        all_goals first|(simp at hk;done)|skip
        refine⟨by simp only[h2];omega,fun e=>?_⟩;have e:((c::s).take (run (fun c=>lower c||digit c) (c::s))).length=0:=by rw[show(c::s).take (run (fun c=>lower c||digit c) (c::s))=[]from e];rfl
        omega
       split at hn
       ·unfold aP at hn;split at hn
        ·cases hn;simp at hk
        ·cases hn
       split at hn
       ·unfold jD at hn;split at hn
        ·cases hn;simp at hk
        ·cases hn
       split at hn
       ·have:=uF _ s (Nat.le_refl _) _ _ _ _ hn
        rw[this.1]at hk;simp at hk
       ·unfold jv at hn;split at hn
        ·cases hn;simp at hk
        ·cases hn
      ·exact ih _ _ t ht hk
  unfold aM at hl;split at hl
  ·cases hl
  ·exact this _ _ _ t (by rw[hl];simp) h2
 ·cases h
end Ck
end
