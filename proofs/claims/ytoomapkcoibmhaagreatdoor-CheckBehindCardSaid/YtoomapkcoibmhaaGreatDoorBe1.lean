/- A part of the proof. -/
import Derived.Test.YtoomapkcoibmhaaGreatDoorQ6
import Derived.Test.YtoomapkcoibmhaaGreatDoorQ46
set_option maxRecDepth 100000
set_option maxHeartbeats 12800000
set_option linter.all false
section
open Go Go.Proofs Go.RowKit Go.Shelf Go.Lib Ck
namespace Ck
def isZ (m:Node):Bool:=m.text==[122,121]||m.text==[122,122,122]
end Ck
namespace Go.Proofs.YtoomapkcoibmhaaGreatDoor
attribute [local go_sem] Oper.semAt_some
theorem aeC (R:List Ck.Node) (g c:Nat) (w:World) (xV:J4 R g w) (hcap:R.length≤c∧c≤maxLen) (hR1:R.length≤3000000) :
  Calls Tryz.prog 12 #[.slice (some ⟨g,0,none⟩) R.length c] w fun e w'=>e=.returned (.bool (R.any isZ))∧Fr [] w w':=by
 have HRA:=Lib.hid xV;clear xV;go_enter Tryz.func12,Tryz.ntmps12;go_wp2
 go_loopw [3] (fun j wr=>∃q:Nat,j=.int .i64 q∧q≤R.length∧Hid ((R.take q).any isZ=false)∧Hid (Fr [] w wr)) (fun j _=>R.length-(intOf j).toNat)
 case atStart=>exact⟨0,rfl,Nat.zero_le _,Lib.hid rfl,Lib.hid (Fr.refl _ _)⟩
 case round =>
  obtain⟨q,rfl,hq,hz,hf⟩:=hrel
  by_cases hlt:q<R.length
  ·obtain⟨nd,hnd⟩:∃nd,R[q]? = some nd:=⟨_,List.getElem?_eq_getElem hlt⟩
   have KI:=HRA.out.fr hf.out (by simp);have hgl:=KI.gl;have n3:wr.cell? ⟨g,q*6+3,none⟩=some (.string ⟨nd.text.toArray⟩):=KI.cells q nd hnd 3 (by omega);have HND:=Lib.hid hnd;clear hnd KI;have hzz:isZ nd=(nd.text==[122,121]||nd.text==[122,122,122]):=rfl;cases e1:(nd.text==[122,121])
   ·cases e2:(nd.text==[122,122,122])
    ·rw[e1,e2]at hzz
     have HZZ:=Lib.hid hzz;clear hzz;go_wp2;refine⟨⟨q+1,by go_num,by omega,Lib.hid ?_,hf⟩,by simp[intOf];omega⟩;rw[List.take_add_one,HND.out,List.any_append,hz.out];simp[HZZ.out]
    ·rw[e1,e2]at hzz
     have hany:R.any isZ=true:=List.any_eq_true.2 ⟨nd,List.mem_of_getElem? HND.out,hzz⟩;clear hzz;go_wp2;go_ret;exact⟨by rw[hany];rfl,hf.out⟩
   ·rw[e1]at hzz
    have hany:R.any isZ=true:=List.any_eq_true.2 ⟨nd,List.mem_of_getElem? HND.out,hzz⟩;clear hzz;go_wp2;go_ret;exact⟨by rw[hany];rfl,hf.out⟩
  ·obtain rfl:q=R.length:=by omega
   have hany:=hz.out;rw[List.take_length]at hany
   go_wp2;go_ret;exact⟨by rw[hany];rfl,hf.out⟩
end Go.Proofs.YtoomapkcoibmhaaGreatDoor
end
section
namespace Ck
mutual
theorem afT:∀(t:Tree),t.all Gm→4≤t.n.kind→t.all Body
 | .mk n ks,ha,hk=>by
  have hk:4≤n.kind:=hk;refine⟨?_,aa0 ks ha.2 (fun t ht=>Qm ha.1 (by omega) t ht)⟩;show(n.kind==2||n.kind==3)=false
  simp;omega
theorem aa0:∀(l:List Tree),oH Gm l→(∀t∈l,4≤t.n.kind)→oH Body l
 | [],_,_=>trivial
 | t::l,ha,hk=>⟨afT t ha.1 (hk t (by simp)),aa0 l ha.2 (fun u hu=>hk u (by simp[hu]))⟩
end
structure Same (s s':CS):Prop where
 ah:s'.ahead=s.ahead
 tl:s'.scopes.tail=s.scopes.tail
theorem Same.refl (s:CS):Same s s:=⟨rfl,rfl⟩
theorem Same.trans {a b c:CS} (h:Same a b) (k:Same b c):Same a c:=⟨k.ah.trans h.ah,k.tl.trans h.tl⟩
theorem Same.add (s:CS) (x:Bytes):Same s (s.add x):=⟨rfl,rfl⟩
mutual
theorem aaW (E:Env):∀(T:Tree) (d k:Nat) (s s':CS),T.all Body→jg E T d k s=.ok s'→Same s s'
 | .mk n ks,d,k,s,s',hA,h=>by
  unfold jg at h;obtain⟨_,_,h⟩:=yM h
  have hB:(n.kind==2||n.kind==3)=false:=hA.1;rw[hB]at h
  rw[if_neg Bool.false_ne_true]at h
  have fin:∀s0,s0=s.add n.text∨s0=s→gu E ks (d+1) 0 s0=.ok s'→Same s s':=fun s0 h0 h=>by
   have h1:=aay E ks (d+1) 0 _ s' hA.2 h;rcases h0 with rfl|rfl
   ·exact(Same.add _ _).trans h1
   ·exact h1
  split at h
  ·obtain⟨s1,h1,h⟩:=yM h
   cases h;have h2:=aay E ks (d+1) 0 _ s1 hA.2 h1;exact⟨h2.ah,by show s1.scopes.tail.tail=_;rw[h2.tl];rfl⟩
  split at h
  ·obtain⟨_,_,h⟩:=yM h
   obtain⟨s1,h1,h⟩:=yM h
   cases h;exact(aay E ks (d+1) 0 s s1 hA.2 h1).trans (Same.add _ _)
  split at h
  ·obtain⟨_,_,h⟩:=yM h
   obtain⟨_,_,h⟩:=yM h
   exact aeD E ks (d+1) n.text s s' hA.2 h
  split at h
  ·obtain⟨_,_,h⟩:=yM h
   exact acN E ks (d+1) 0 n.text _ s s' hA.2 h
  split at h
  ·obtain⟨_,_,h⟩:=yM h
   obtain⟨_,_,h⟩:=yM h
   exact fin _ (.inl rfl) h
  split at h
  ·obtain⟨_,_,h⟩:=yM h
   exact fin _ (.inr rfl) h
  split at h
  ·obtain⟨_,_,h⟩:=yM h
   exact fin _ (.inr rfl) h
  split at h
  ·split at h
   ·obtain⟨_,h1,h⟩:=yM h
    cases h1
   ·obtain⟨_,_,h⟩:=yM h
    exact fin _ (.inr rfl) h
  split at h
  ·obtain⟨_,_,h⟩:=yM h
   exact fin _ (.inr rfl) h
  ·exact fin _ (.inr rfl) h
theorem aay (E:Env):∀(l:List Tree) (d k:Nat) (s s':CS),oH Body l→gu E l d k s=.ok s'→Same s s'
 | [],d,k,s,s',hA,h=>by
  unfold gu at h;cases h;exact Same.refl _
 | t::l,d,k,s,s',hA,h=>by
  unfold gu at h;obtain⟨s1,h1,h⟩:=yM h
  exact(aaW E t d k s s1 hA.1 h1).trans (aay E l d (k+1) s1 s' hA.2 h)
theorem aeD (E:Env):∀(l:List Tree) (d:Nat) (x:Bytes) (s s':CS),oH Body l→yX E l d x s=.ok s'→Same s s'
 | [],d,x,s,s',hA,h=>by
  unfold yX at h;cases h;exact Same.refl _
 | t::l,d,x,s,s',hA,h=>by
  unfold yX at h;obtain⟨s1,h1,h⟩:=yM h
  obtain⟨s2,h2,h⟩:=yM h
  cases h;have a:=aaW E t d 0 s s1 hA.1 h1;have b:=aay E l d 1 _ s2 hA.2 h2;exact a.trans ⟨b.ah,b.tl⟩
theorem acN (E:Env):∀(l:List Tree) (d k:Nat) (v x:Bytes) (s s':CS),oH Body l→yY E l d k v x s=.ok s'→Same s s'
 | [],d,k,v,x,s,s',hA,h=>by
  unfold yY at h;cases h;exact Same.refl _
 | t::l,d,k,v,x,s,s',hA,h=>by
  unfold yY at h;split at h
  ·obtain⟨s1,h1,h⟩:=yM h
   cases h;have a:=aaW E t d k _ s1 hA.1 h1;exact⟨a.ah,by show s1.scopes.tail.tail=_;rw[a.tl];rfl⟩
  ·obtain⟨s1,h1,h⟩:=yM h
   exact(aaW E t d k s s1 hA.1 h1).trans (acN E l d (k+1) v x s1 s' hA.2 h)
end
structure Alike (E E':Env) (z:Bytes):Prop where
 g:E'.globals=E.globals
 f:E'.free=E.free
 p:∀x,x≠z→lookup E'.params x=lookup E.params x
def adk (z:Bytes) (n:Node) (_:List Tree):Prop:=n.text≠z
mutual
theorem ac0 {E E':Env} {z:Bytes} (a:Alike E E' z):∀(T:Tree) (d k:Nat) (s:CS),T.all (adk z)→jg E' T d k s=jg E T d k s
 | .mk n ks,d,k,s,hA=>by
  have hn:n.text≠z:=hA.1;have e1:=fun s=>aaX a ks (d+1) 0 s hA.2
  have e2:=fun x s=>afr a ks (d+1) x s hA.2
  have e3:=fun v x s=>adl a ks (d+1) 0 v x s hA.2
  unfold jg;simp only[e1,e2,e3,known,a.g,a.f,a.p _ hn]
theorem aaX {E E':Env} {z:Bytes} (a:Alike E E' z):∀(l:List Tree) (d k:Nat) (s:CS),oH (adk z) l→gu E' l d k s=gu E l d k s
 | [],d,k,s,_=>by unfold gu;rfl
 | t::l,d,k,s,hA=>by
  unfold gu;simp only[ac0 a t d k s hA.1,fun s=>aaX a l d (k+1) s hA.2]
theorem afr {E E':Env} {z:Bytes} (a:Alike E E' z):∀(l:List Tree) (d:Nat) (x:Bytes) (s:CS),oH (adk z) l→yX E' l d x s=yX E l d x s
 | [],d,x,s,_=>by unfold yX;rfl
 | t::l,d,x,s,hA=>by
  unfold yX;simp only[fun s=>ac0 a t d 0 s hA.1,fun s=>aaX a l d 1 s hA.2]
theorem adl {E E':Env} {z:Bytes} (a:Alike E E' z):∀(l:List Tree) (d k:Nat) (v x:Bytes) (s:CS),oH (adk z) l→yY E' l d k v x s=yY E l d k v x s
 | [],d,k,v,x,s,_=>by unfold yY;rfl
 | t::l,d,k,v,x,s,hA=>by
  unfold yY;simp only[fun s=>ac0 a t d k s hA.1,fun s=>adl a l d (k+1) v x s hA.2]
end
theorem aa5 (E:Env):∀(l l':List Tree) (d k:Nat) (s:CS),gu E (l++l') d k s=gu E l d k s >>= fun s'=>gu E l' d (k+l.length) s'
 | [],l',d,k,s=>by rw[List.nil_append,gu];rfl
 | t::l,l',d,k,s=>by
  rw[List.cons_append,gu,gu];cases h:jg E t d k s with
  | error f=>rfl
  | ok s1 =>
   show gu E (l++l') d (k+1) s1=(gu E l d (k+1) s1 >>= _)
   rw[aa5 E l l',show k+1+l.length=k+(t::l).length by simp;omega]
theorem adn (E:Env):∀(l:List Tree) (d k:Nat) (s s':CS),oH Gm l→(∀t∈l,t.n.kind=2∨t.n.kind=3)→gu E l d k s=.ok s'→s'.scopes=s.scopes∧∀x,x∈s'.ahead→x∈s.ahead∨∃t∈l,t.n.text=x
 | [],d,k,s,s',_,_,h=>by
  unfold gu at h;cases h;exact⟨rfl,fun x hx=>.inl hx⟩
 | .mk n ks::l,d,k,s,s',hA,hk,h=>by
  unfold gu at h;obtain⟨s1,h1,h⟩:=yM h
  obtain⟨i1,i2⟩:=adn E l d (k+1) s1 s' hA.2 (fun t ht=>hk t (List.mem_cons_of_mem _ ht)) h
  have hkn:n.kind=2∨n.kind=3:=hk (.mk n ks) List.mem_cons_self
  have hB:oH Body ks:=aa0 ks hA.1.2 (by
   rcases hkn with e|e
   ·have hg:=hA.1.1.2;unfold dR at hg;rw[if_neg (by omega),if_pos e]at hg
    rw[hg.2];intro t ht;cases ht
   ·exact Qm hA.1.1 (by omega))
  have key:s1.scopes=s.scopes∧s1.ahead=n.text::s.ahead:=by
   unfold jg at h1;obtain⟨_,_,h1⟩:=yM h1
   rw[if_pos (by simpa using hkn)]at h1
   obtain⟨_,_,h1⟩:=yM h1
   obtain⟨s2,h2,h1⟩:=yM h1
   have h3:=aay E ks _ _ _ _ hB h2;have h4:s2.scopes.tail=s.scopes∧s2.ahead=n.text::s.ahead:=⟨h3.tl,h3.ah⟩
   split at h1
   ·obtain⟨_,_,h1⟩:=yM h1
    obtain⟨_,_,h1⟩:=yM h1
    cases h1;exact h4
   ·cases h1;exact h4
  refine⟨i1.trans key.1,fun x hx=>?_⟩;rcases i2 x hx with hx|⟨t,ht,hx⟩
  ·rw[key.2]at hx
   rcases List.mem_cons.1 hx with rfl|hx
   ·exact .inr ⟨_,List.mem_cons_self,rfl⟩
   ·exact .inl hx
  ·exact .inr ⟨t,List.mem_cons_of_mem _ ht,hx⟩
theorem lookup_append (l l':List (Bytes × Int)) (x:Bytes):lookup (l++l') x=match lookup l x with|some a=>some a|none=>lookup l' x:=by
 induction l with
 | nil=>rfl
 | cons p l ih =>
  obtain⟨n,a⟩:=p
  simp only[List.cons_append,lookup];cases n==x
  ·simpa using ih
  ·rfl
theorem Hr {l:List (Bytes × Int)} {x:Bytes} (h:∀p∈l,p.1≠x):lookup l x=none:=by
 induction l with
 | nil=>rfl
 | cons p l ih =>
  obtain⟨n,a⟩:=p
  have h1:(n==x)=false:=by rw[beq_eq_false_iff_ne];exact h (n,a) List.mem_cons_self
  rw[lookup,h1,if_neg Bool.false_ne_true];exact ih (fun q hq=>h q (List.mem_cons_of_mem _ hq))
theorem adS {α β:Type} (a:β) (f:β→P α):((pure a:P β) >>= f)=f a:=rfl
structure afU (E B0:Tok × Int) (B':TS) (r r':Rec):Prop where
 block:Sim E B0 B' r.block r'.block
 statement:Sim E B0 B' r.statement r'.statement
 choice:Sim E B0 B' r.choice r'.choice
 loop:∀l,Sim E B0 B' (r.loop l) (r'.loop l)
 expr:Sim E B0 B' r.expr r'.expr
 and':Sim E B0 B' r.and' r'.and'
 not':Sim E B0 B' r.not' r'.not'
 level:∀k,Sim E B0 B' (r.level k) (r'.level k)
 unary:Sim E B0 B' r.unary r'.unary
 primary:Sim E B0 B' r.primary r'.primary
section
variable {F:dS} {E B0:Tok × Int} {B':TS} (S:aeE E B0)
include S
theorem aaj (t:Tree):Sim E B0 B' (mO F t) (mO F t):=Sim.bind (aaf S 3 _ rfl) fun _=>Sim.pure _
variable {r r':Rec} (h:afU E B0 B' r r')
include h
theorem abv:∀n m ks,n≤m→Sim E B0 B' (rU F r n ks) (rU F r' m ks)
 | 0,_,_,_=>Sim.out
 | n+1,0,_,hm=>absurd hm (by omega)
 | n+1,m+1,ks,hm=>Sim.bind (aam S 3 [125] rfl rfl) fun _=>Sim.ite (Sim.pure _) (Sim.bind h.statement fun _=>abv n m _ (by omega))
theorem adT (n m:Nat) (hm:n≤m):Sim E B0 B' (uI F r n) (uI F r' m) :=
 Sim.bind (aaf S 3 [123] rfl) fun _=>Sim.bind (abv S h n m [] hm) fun _=>Sim.pure _
theorem acO:∀n m e,n≤m→Sim E B0 B' (vF F r n e) (vF F r' m e)
 | 0,_,_,_=>Sim.out
 | n+1,0,_,hm=>absurd hm (by omega)
 | n+1,m+1,e,hm=>Sim.bind (aan S 2 _ rfl rfl) fun _=>Sim.ite (Sim.bind (aaf S 2 _ rfl) fun _=>Sim.bind h.and' fun _=>acO n m _ (by omega)) (Sim.pure _)
theorem ado:∀n m e,n≤m→Sim E B0 B' (ED F r n e) (ED F r' m e)
 | 0,_,_,_=>Sim.out
 | n+1,0,_,hm=>absurd hm (by omega)
 | n+1,m+1,e,hm=>Sim.bind (aan S 2 _ rfl rfl) fun _=>Sim.ite (Sim.bind (aaf S 2 _ rfl) fun _=>Sim.bind h.not' fun _=>ado n m _ (by omega)) (Sim.pure _)
theorem adp (e:Tree) (k:Nat):Sim E B0 B' (zF F r e k) (zF F r' e k) :=
 Sim.bind (aar S 3 rfl) fun _=>Sim.bind (h.level k) fun _=>Sim.pure _
theorem abw (k:Nat) (l:List Bytes):∀n m e,n≤m→Sim E B0 B' (qN F r k l n e) (qN F r' k l m e)
 | 0,_,_,_=>Sim.out
 | n+1,0,_,hm=>absurd hm (by omega)
 | n+1,m+1,e,hm=>Sim.bind (aan S 3 _ rfl rfl) fun _=>Sim.ite (Sim.bind (adp S h e (k+1)) fun _=>abw k l n m _ (by omega)) (Sim.pure _)
theorem abx:∀n m e,n≤m→Sim E B0 B' (qO F r n e) (qO F r' m e)
 | 0,_,_,_=>Sim.out
 | n+1,0,_,hm=>absurd hm (by omega)
 | n+1,m+1,e,hm=>Sim.bind (aan S 3 _ rfl rfl) fun _=>Sim.ite (Sim.bind (aaf S 3 _ rfl) fun _=>Sim.bind h.expr fun _=>Sim.bind (aaf S 3 _ rfl) fun _=>abx n m _ (by omega)) (Sim.pure _)
theorem acR:∀n m ks,n≤m→Sim E B0 B' (vG F r n ks) (vG F r' m ks)
 | 0,_,_,_=>Sim.out
 | n+1,0,_,hm=>absurd hm (by omega)
 | n+1,m+1,ks,hm=>Sim.bind h.expr fun _=>Sim.bind (aam S 3 [44] rfl rfl) fun _=>Sim.ite (acR n m _ (by omega)) (Sim.bind (aaf S 3 _ rfl) fun _=>Sim.pure _)
theorem adU:Sim E B0 B' (mX F r) (mX F r') :=
 Sim.bind h.expr fun _=>Sim.ite (Sim.bind (aam S 3 _ rfl rfl) fun _=>Sim.ite (Sim.bind h.expr fun _=>Sim.ite (aaj S _) (aaj S _)) (aaj S _)) (aaj S _)
theorem adq:Sim E B0 B' (qM F r) (qM F r') :=
 Sim.bind (aaf S 2 _ rfl) fun _=>Sim.bind h.expr fun _=>Sim.bind h.block fun _=>Sim.bind (aam S 2 _ rfl rfl) fun _=>Sim.ite
  (Sim.bind (aan S 2 _ rfl rfl) fun _=>Sim.ite (Sim.bind h.choice fun _=>Sim.pure _) (Sim.bind h.block fun _=>Sim.pure _)) (Sim.pure _)
theorem aeF (l:Option Tok):Sim E B0 B' (zD F r l) (zD F r' l) :=
 Sim.bind (aar S 2 rfl) fun _=>Sim.ite (Sim.bind h.expr fun _=>Sim.bind h.block fun _=>Sim.pure _)
  (Sim.bind (aar S 1 rfl) fun _=>Sim.bind (aaf S 2 _ rfl) fun _=>Sim.bind h.expr fun _=>Sim.bind (aaf S 3 _ rfl) fun _=>Sim.bind h.expr fun _=>Sim.bind h.block fun _=>Sim.pure _)
theorem aby:Sim E B0 B' (iP F r) (iP F r'):=by
 have hp:=adU S h (F:=F);unfold iP;refine Sim.look S (fun t=>?_) ?_
 ·refine aai.label S ?_ ?_
  ·rw[if_pos rfl,if_pos rfl];exact afV.oU (aai.oU (Sim.bind (aan S 2 _ rfl rfl) fun _=>Sim.ite (h.loop _) aaJ))
  ·rw[if_neg Bool.false_ne_true,if_neg Bool.false_ne_true];refine aai.ite ?_ hp.n;refine aai.ite (aai.oU (Sim.bind (aar S 1 rfl) fun _=>Sim.bind (aaf S 3 _ rfl) fun _=>Sim.bind h.expr fun _=>aaj S _)) ?_;refine aai.ite h.choice.n (aai.ite (h.loop _).n (aai.ite (aai.oU ?_) (aai.ite (aai.oU ?_) (aai.ite (aai.oU ?_) hp.n))))
   ·refine Sim.look S (fun t=>aai.ite (Sim.bind (aar S 1 rfl) fun _=>aaj S _).n (aaj S _).n) ?_;have e1:(E.1.kind==1)=false:=by rw[S.e];rfl
    have b1:(B0.1.kind==1)=false:=by rw[S.k];rfl
    simp only[e1,b1,Bool.false_eq_true,if_false];exact aaj S _
   ·exact Sim.bind (aan S 3 _ rfl rfl) fun _=>Sim.ite (aaj S _) (Sim.bind h.expr fun _=>aaj S _)
   ·exact Sim.bind h.expr fun _=>aaj S _
 ·have e1:(E.1.kind==1)=false:=by rw[S.e];rfl
  have e2:(E.1.kind==2)=false:=by rw[S.e];rfl
  have b1:(B0.1.kind==1)=false:=by rw[S.k];rfl
  have b2:(B0.1.kind==2)=true:=by rw[S.k];rfl
  simp only[e1,b1,Bool.false_eq_true,if_false,adS,e2,b2,if_true,S.x];exact hp
theorem ac1 (n m:Nat) (hm:n≤m):Sim E B0 B' (jS F r n) (jS F r' m):=by
 unfold jS;refine Sim.look S (fun t=>?_) ?_
 ·refine aai.ite (aai.oU (Sim.pure _)) (aai.ite (aai.oU (Sim.pure _)) (aai.ite (aai.oU (Sim.pure _)) (aai.ite ?_ (aai.ite (aai.oU ?_) (aai.ite ?_ aaJ.n)))))
  ·cases gY t.text with
   | none=>exact aaJ.n
   | some k=>exact aai.oU (Sim.pure _)
  ·exact Sim.bind (aam S 3 _ rfl rfl) fun _=>Sim.ite (Sim.bind (aam S 3 _ rfl rfl) fun _=>Sim.ite (Sim.pure _) (Sim.bind (acR S h n m [] hm) fun _=>Sim.pure _)) (Sim.pure _)
  ·exact(Sim.bind (aam S 3 _ rfl rfl) fun _=>Sim.ite (Sim.bind h.expr fun _=>Sim.bind (aaf S 3 _ rfl) fun _=>Sim.pure _) aaJ).n
 ·rw[S.e];exact aaJ
theorem afs (n m:Nat) (hm:n≤m):afU E B0 B' (step F r n) (step F r' m) where
 block:=adT S h n m hm
 statement:=aby S h
 choice:=adq S h
 loop:=aeF S h
 expr:=Sim.bind h.and' fun e=>acO S h n m e hm
 and':=Sim.bind h.not' fun e=>ado S h n m e hm
 not':=Sim.bind (aan S 2 _ rfl rfl) fun _=>Sim.ite (Sim.bind (aaf S 2 _ rfl) fun _=>Sim.bind h.not' fun _=>Sim.pure _)
  (Sim.bind (h.level 0) fun e=>Sim.bind (aan S 3 _ rfl rfl) fun _=>Sim.ite (adp S h e 0) (Sim.pure _))
 level k:=by
  show Sim E B0 B' (lN F r n k) (lN F r' m k);unfold lN;cases levels[k]? with
  | none=>exact h.unary
  | some l=>exact Sim.bind (h.level (k+1)) fun e=>abw S h k l n m e hm
 unary:=Sim.bind (aan S 3 _ rfl rfl) fun _=>Sim.ite (Sim.bind (aar S 3 rfl) fun _=>Sim.bind h.unary fun _=>Sim.pure _)
  (Sim.bind h.primary fun e=>abx S h n m e hm)
 primary:=ac1 S h n m hm
omit h
theorem adr:∀n m,n≤m→afU E B0 B' (recs F n) (recs F m)
 | 0,_,_=>⟨Sim.out,Sim.out,Sim.out,fun _=>Sim.out,Sim.out,Sim.out,Sim.out,fun _=>Sim.out,Sim.out,Sim.out⟩
 | n+1,0,hm=>absurd hm (by omega)
 | n+1,m+1,hm=>afs S (adr n m (by omega)) n m (by omega)
theorem aa6:∀n m ks,n≤m→Sim E B0 B' (nJ F n ks) (nJ F m ks)
 | 0,_,_,_=>Sim.out
 | n+1,0,_,hm=>absurd hm (by omega)
 | n+1,m+1,ks,hm=>Sim.bind (aar S 1 rfl) fun _=>Sim.bind (aam S 3 _ rfl rfl) fun _=>Sim.ite (aa6 n m _ (by omega)) (Sim.bind (aaf S 3 _ rfl) fun _=>Sim.pure _)
include h in
theorem ab3 (n m:Nat) (hm:n≤m):Sim E B0 B' (iD F r n) (iD F r' m) :=
 Sim.bind (aar S 1 rfl) fun _=>Sim.bind (aaf S 3 _ rfl) fun _=>Sim.bind (Sim.bind (aam S 3 _ rfl rfl) fun _=>Sim.ite (Sim.pure _) (aa6 S n m [] hm)) fun _=>Sim.bind h.block fun _=>Sim.pure _
end
def nx (t:Tok) (n:Int):Int:=if opens t then n+1 else if closes t then n-1 else n
def Ch:Int→TS→Prop
 | _,[]=>True
 | n,p::l=>p.2=n∧Ch (nx p.1 n) l
theorem ads:∀(l:List Tok) (n:Int),Ch n (iM l n)
 | [],_=>trivial
 | _::l,_=>⟨rfl,ads l _⟩
def wt (k:Int) (x:Bytes):Int:=if k==3 then(if x==[40]||x==[91]||x==[123]then 1 else if x==[41]||x==[93]||x==[125]then -1 else 0)else 0
theorem abz (t:Tok) (n:Int):nx t n=n+wt t.kind t.text:=by
 unfold nx wt opens closes;cases t.kind==3<;>simp only[Bool.false_and,Bool.true_and,Bool.false_eq_true,if_false,if_true]
 ·omega
 ·split
  ·rfl
  ·split<;>omega
section
variable {α β:Type} {c:Int}
def Bal (c:Int) (p:P α):Prop:=∀n ts x ts',Ch n ts→p ts=some (.ok (x,ts'))→Ch (n+c) ts'∧ts' <:+ ts
def aah (t:Tok) (c:Int) (p:P α):Prop:=∀n o r x ts',Ch n ((t,o)::r)→p ((t,o)::r)=some (.ok (x,ts'))→Ch (n+c) ts'∧ts' <:+ (t,o)::r
theorem Bal.l {p:P α} (h:Bal c p) (t:Tok):aah t c p:=fun n o r x ts' h1 h2=>h n _ x ts' h1 h2
theorem Bal.bind {d:Int} {x:P β} {f:β→P α} (hx:Bal d x) (hf:∀a,Bal (c-d) (f a)):Bal c (x >>= f):=by
 intro n ts a ts' h1 h;obtain⟨b,t1,h2,h3⟩:=bind_ok h
 obtain⟨k1,k2⟩:=hx _ _ _ _ h1 h2
 obtain⟨k3,k4⟩:=hf b _ _ _ _ k1 h3
 rw[show n+d+(c-d)=n+c by omega]at k3
 exact⟨k3,k4.trans k2⟩
theorem aah.bind {t:Tok} {d:Int} {x:P β} {f:β→P α} (hx:aah t d x) (hf:∀a,Bal (c-d) (f a)):aah t c (x >>= f):=by
 intro n o r a ts' h1 h;obtain⟨b,t1,h2,h3⟩:=bind_ok h
 obtain⟨k1,k2⟩:=hx _ _ _ _ _ h1 h2
 obtain⟨k3,k4⟩:=hf b _ _ _ _ k1 h3
 rw[show n+d+(c-d)=n+c by omega]at k3
 exact⟨k3,k4.trans k2⟩
theorem Bal.pure (a:α):Bal 0 (pure a:P α):=by
 intro n ts x ts' h1 h;rw[aZ]at h
 cases h;exact⟨by rwa [Int.add_zero],List.suffix_refl _⟩
theorem Bal.fail (f:dS):Bal c (P.fail f:P α):=fun _ _ _ _ _ h=>by cases h
theorem Bal.out:Bal c (P.out:P α):=fun _ _ _ _ _ h=>by cases h
theorem Bal.ite {g:Prop} [Decidable g] {x y:P α} (hx:Bal c x) (hy:Bal c y):Bal c (if g then x else y):=by split<;>assumption
theorem aah.ite {t:Tok} {g:Prop} [Decidable g] {x y:P α} (hx:g→aah t c x) (hy:¬g→aah t c y):aah t c (if g then x else y):=by
 split
 ·rename_i h;exact hx h
 ·rename_i h;exact hy h
variable {F:dS}
theorem aaK:Bal c (wrong F:P α):=by
 intro n ts x ts' _ h;obtain⟨t,t1,h1,h2⟩:=bind_ok h
 cases h2
theorem Bal.look {f:Tok→P α} (h:∀t,aah t c (f t)):Bal c (look F >>= f):=by
 intro n ts x ts' h1 hh;obtain⟨t,t1,h2,h3⟩:=bind_ok hh
 obtain⟨o,r,rfl,rfl⟩:=jk F h2
 exact h t n o r x ts' h1 h3
theorem aaC (k:Int) (l:List Bytes):Bal 0 (sees F k l):=Bal.look fun _=>(Bal.pure _).l _
theorem aaD (k:Int) (hk:(k==3)=false:=by decide):Bal 0 (take F k):=by
 intro n ts x ts' h1 h;cases ts with
 | nil=>cases h
 | cons a r =>
  obtain⟨t,o⟩:=a
  rw[take_at]at h
  split at h
  ·cases h
  split at h
  ·rename_i hc;cases h
   have:=h1.2
   rw[abz,beq_iff_eq.1 hc]at this
   unfold wt at this;rw[hk,if_neg Bool.false_ne_true]at this
   exact⟨this,List.suffix_cons _ _⟩
  ·cases h
theorem aag (k:Int) (x:Bytes):Bal (wt k x) (must F k x):=by
 intro n ts y ts' h1 h;cases ts with
 | nil=>cases h
 | cons a r =>
  obtain⟨t,o⟩:=a
  rw[aa9]at h
  split at h
  ·cases h
  split at h
  ·rename_i hc;cases h;simp only[Bool.and_eq_true,beq_iff_eq,List.contains_cons,List.contains_nil,Bool.or_false]at hc
   have:=h1.2
   rw[abz,hc.1,hc.2]at this
   exact⟨this,List.suffix_cons _ _⟩
  ·cases h
theorem Bal.skip {k:Int} {x:Bytes} {X Y:P α} (hX:Bal (c-wt k x) X) (hY:Bal c Y):Bal c (skip F k x >>= fun b=>if b=true then X else Y):=by
 intro n ts y ts' h1 h;obtain⟨b,t1,h2,h3⟩:=bind_ok h
 cases ts with
 | nil=>cases h2
 | cons a r =>
  obtain⟨t,o⟩:=a
  rw[aau]at h2
  split at h2
  ·cases h2
  split at h2
  ·rename_i hd;cases h2;simp only[Bool.and_eq_true,beq_iff_eq,List.contains_cons,List.contains_nil,Bool.or_false]at hd;have h4:=h1.2;rw[abz,hd.1,hd.2]at h4
   rw[if_pos rfl]at h3
   obtain⟨k1,k2⟩:=hX _ _ _ _ h4 h3
   rw[show n+wt k x+(c-wt k x)=n+c by omega]at k1
   exact⟨k1,k2.trans (List.suffix_cons _ _)⟩
  ·cases h2;rw[if_neg Bool.false_ne_true]at h3
   exact hY _ _ _ _ h1 h3
def abA (c:Int) (p:P α):Prop:=∀t,wt t.kind t.text=0→aah t c p
theorem Bal.p {p:P α} (h:Bal c p):abA c p:=fun t _=>h.l t
theorem abA.bind {d:Int} {x:P β} {f:β→P α} (hx:abA d x) (hf:∀a,Bal (c-d) (f a)):abA c (x >>= f):=fun t ht=>(hx t ht).bind hf
theorem acS (k:Int):abA 0 (take F k):=by
 intro t ht n o r x ts' h1 h;rw[take_at]at h
 split at h
 ·cases h
 split at h
 ·cases h
  have:=h1.2
  rw[abz,ht]at this
  exact⟨this,List.suffix_cons _ _⟩
 ·cases h
theorem aft:abA 0 oU:=by
 intro t ht n o r x ts' h1 h;cases h
 have:=h1.2
 rw[abz,ht]at this
 exact⟨this,List.suffix_cons _ _⟩
theorem Bal.sees {l:List Bytes} {X Y:P α} (hX:abA c X) (hY:Bal c Y) (hl:l.all (fun x=>wt 3 x==0)=true:=by decide):Bal c (sees F 3 l >>= fun b=>if b=true then X else Y):=by
 intro n ts y ts' h1 h;obtain⟨b,t1,h2,h3⟩:=bind_ok h
 cases ts with
 | nil=>cases h2
 | cons a r =>
  obtain⟨t,o⟩:=a
  rw[aee]at h2
  split at h2
  ·cases h2
  cases h2;split at h3
  ·rename_i hd;simp only[Bool.and_eq_true,beq_iff_eq]at hd;refine hX t ?_ _ _ _ _ _ h1 h3;rw[hd.1];exact beq_iff_eq.1 (List.all_eq_true.1 hl _ (List.contains_iff_mem.1 hd.2))
  ·exact hY _ _ _ _ h1 h3
theorem aah.label {t:Tok} {f:Bool→P α} {g:P α} (hf:f true=(oU >>= fun _=>oU >>= fun _=>g)) (h1:Bal c g) (h0:aah t c (f false)) :
  aah t c ((if (t.kind==1)=true then(og F >>= fun c=>Pure.pure (c.kind==3&&c.text==[58]))else Pure.pure false:P Bool) >>= f):=by
 intro n o r x ts' h2 h;obtain⟨b,t1,h3,h4⟩:=bind_ok h
 split at h3
 ·rename_i hk;obtain⟨d,t2,h5,h6⟩:=bind_ok h3
  rw[aZ]at h6
  cases h6;unfold og at h5;cases r with
  | nil=>cases h5
  | cons a r =>
   obtain⟨u,o2⟩:=a
   simp only[List.tail_cons,aW]at h5;cases hc:opens u&&decide (64≤o2)
   ·rw[hc]at h5
    simp only[Bool.false_eq_true,if_false]at h5;cases h5;cases hu:(d.kind==3&&d.text==[58])
    ·rw[hu]at h4;exact h0 _ _ _ _ _ h2 h4
    ·rw[hu,hf]at h4
     obtain⟨_,s1,e1,e2⟩:=bind_ok h4
     cases e1;obtain⟨_,s2,e3,e4⟩:=bind_ok e2
     cases e3;simp only[Bool.and_eq_true,beq_iff_eq]at hu;have h7:=h2.2;rw[abz,beq_iff_eq.1 hk]at h7
     have h8:=h7.2;rw[abz,hu.1,hu.2]at h8
     have e5:wt 1 t.text=0:=rfl;have e6:wt 3 [58]=0:=rfl;rw[e5,e6,Int.add_zero,Int.add_zero]at h8
     obtain⟨k1,k2⟩:=h1 _ _ _ _ h8 e4
     exact⟨k1,k2.trans ((List.suffix_cons _ _).trans (List.suffix_cons _ _))⟩
   ·rw[hc]at h5;cases h5
 ·rw[aZ]at h3
  cases h3;exact h0 _ _ _ _ _ h2 h4
theorem afW {k:Int} {x:Bytes} (h:k≠3):wt k x=0:=by
 unfold wt;rw[if_neg (by simpa using h)]
theorem aah.oU {t:Tok} {f:Unit→P α} (hk:t.kind≠3) (h:Bal c (f ())):aah t c (oU >>= f):=by
 have h1:=aft t (afW hk);exact h1.bind (fun _=>by rwa [Int.sub_zero])
end
structure agh (r:Rec):Prop where
 block:Bal 0 r.block
 statement:Bal 0 r.statement
 choice:Bal 0 r.choice
 loop:∀l,Bal 0 (r.loop l)
 expr:Bal 0 r.expr
 and':Bal 0 r.and'
 not':Bal 0 r.not'
 level:∀k,Bal 0 (r.level k)
 unary:Bal 0 r.unary
 primary:Bal 0 r.primary
section
variable {F:dS}
theorem aao (t:Tree):Bal 0 (mO F t):=Bal.bind (aag 3 _) fun _=>Bal.pure _
variable {r:Rec} (h:agh r)
include h
theorem abF:∀n ks,Bal (-1) (rU F r n ks)
 | 0,_=>Bal.out
 | n+1,ks=>Bal.skip (Bal.pure _) (Bal.bind h.statement fun _=>abF n _)
theorem adV (n:Nat):Bal 0 (uI F r n):=Bal.bind (aag 3 _) fun _=>Bal.bind (abF h n []) fun _=>Bal.pure _
theorem acT:∀n e,Bal 0 (vF F r n e)
 | 0,_=>Bal.out
 | n+1,e=>Bal.bind (aaC 2 _) fun _=>Bal.ite (Bal.bind (aag 2 _) fun _=>Bal.bind h.and' fun _=>acT n _) (Bal.pure _)
theorem adt:∀n e,Bal 0 (ED F r n e)
 | 0,_=>Bal.out
 | n+1,e=>Bal.bind (aaC 2 _) fun _=>Bal.ite (Bal.bind (aag 2 _) fun _=>Bal.bind h.not' fun _=>adt n _) (Bal.pure _)
theorem adu (e:Tree) (k:Nat):abA 0 (zF F r e k):=abA.bind (acS 3) fun _=>Bal.bind (h.level k) fun _=>Bal.pure _
theorem abG (k:Nat) (l:List Bytes) (hl:l.all (fun x=>wt 3 x==0)=true):∀n e,Bal 0 (qN F r k l n e)
 | 0,_=>Bal.out
 | n+1,e=>Bal.sees (abA.bind (adu h e (k+1)) fun _=>abG k l hl n _) (Bal.pure _) hl
theorem abH:∀n e,Bal 0 (qO F r n e)
 | 0,_=>Bal.out
 | n+1,e=>Bal.bind (aaC 3 _) fun _=>Bal.ite (Bal.bind (aag 3 _) fun _=>Bal.bind h.expr fun _=>Bal.bind (aag 3 _) fun _=>abH n _) (Bal.pure _)
theorem acV:∀n ks,Bal (-1) (vG F r n ks)
 | 0,_=>Bal.out
 | n+1,ks=>Bal.bind h.expr fun _=>Bal.skip (acV n _) (Bal.bind (aag 3 _) fun _=>Bal.pure _)
theorem adW:Bal 0 (mX F r) :=
 Bal.bind h.expr fun _=>Bal.ite (Bal.skip (Bal.bind h.expr fun _=>Bal.ite (aao _) (aao _)) (aao _)) (aao _)
theorem adw:Bal 0 (qM F r) :=
 Bal.bind (aag 2 _) fun _=>Bal.bind h.expr fun _=>Bal.bind h.block fun _=>Bal.skip
  (Bal.bind (aaC 2 _) fun _=>Bal.ite (Bal.bind h.choice fun _=>Bal.pure _) (Bal.bind h.block fun _=>Bal.pure _)) (Bal.pure _)
theorem aeG (l:Option Tok):Bal 0 (zD F r l) :=
 Bal.bind (aaD 2) fun _=>Bal.ite (Bal.bind h.expr fun _=>Bal.bind h.block fun _=>Bal.pure _)
  (Bal.bind (aaD 1) fun _=>Bal.bind (aag 2 _) fun _=>Bal.bind h.expr fun _=>Bal.bind (aag 3 _) fun _=>Bal.bind h.expr fun _=>Bal.bind h.block fun _=>Bal.pure _)
theorem abI:Bal 0 (iP F r):=by
 have hp:=adW h (F:=F);unfold iP;refine Bal.look fun t=>aah.label (by rw[if_pos rfl]) (Bal.bind (aaC 2 _) fun _=>Bal.ite (h.loop _) aaK) ?_
 rw[if_neg Bool.false_ne_true];refine aah.ite (fun hk=>?_) fun _=>hp.l t
 have hk:t.kind≠3:=by rw[beq_iff_eq.1 hk];decide
 refine aah.ite (fun _=>aah.oU hk (Bal.bind (aaD 1) fun _=>Bal.bind (aag 3 _) fun _=>Bal.bind h.expr fun _=>aao _)) fun _=>?_
 refine aah.ite (fun _=>h.choice.l t) fun _=>aah.ite (fun _=>(h.loop _).l t) fun _=>aah.ite (fun _=>aah.oU hk ?_) fun _=>aah.ite (fun _=>aah.oU hk ?_) fun _=>aah.ite (fun _=>aah.oU hk ?_) fun _=>hp.l t
 ·exact Bal.look fun t=>aah.ite (fun _=>(Bal.bind (aaD 1) fun _=>aao _).l t) fun _=>(aao _).l t
 ·exact Bal.bind (aaC 3 _) fun _=>Bal.ite (aao _) (Bal.bind h.expr fun _=>aao _)
 ·exact Bal.bind h.expr fun _=>aao _
theorem ac2 (n:Nat):Bal 0 (jS F r n):=by
 unfold jS;refine Bal.look fun t=>?_
 have no:∀{k:Int},(t.kind==k)=true→(k==3)=false→t.kind≠3:=fun h1 h2=>by rw[beq_iff_eq.1 h1];simpa using h2
 refine aah.ite (fun hk=>aah.oU (no hk rfl) (Bal.pure _)) fun _=>aah.ite (fun hk=>aah.oU (no hk rfl) (Bal.pure _)) fun _=>aah.ite (fun hk=>aah.oU (no hk rfl) (Bal.pure _)) fun _=>aah.ite (fun hk=>?_) fun _=>aah.ite (fun hk=>aah.oU (no hk rfl) ?_) fun _=>aah.ite (fun _=>?_) fun _=>aaK.l t
 ·cases gY t.text with
  | none=>exact aaK.l t
  | some k=>exact aah.oU (no hk rfl) (Bal.pure _)
 ·exact Bal.skip (Bal.skip (Bal.pure _) (Bal.bind (acV h n []) fun _=>Bal.pure _)) (Bal.pure _)
 ·exact(Bal.skip (Bal.bind h.expr fun _=>Bal.bind (aag 3 _) fun _=>Bal.pure _) aaK).l t
theorem afu (n:Nat):agh (step F r n) where
 block:=adV h n
 statement:=abI h
 choice:=adw h
 loop:=aeG h
 expr:=Bal.bind h.and' fun e=>acT h n e
 and':=Bal.bind h.not' fun e=>adt h n e
 not':=Bal.bind (aaC 2 _) fun _=>Bal.ite (Bal.bind (aag 2 _) fun _=>Bal.bind h.not' fun _=>Bal.pure _)
  (Bal.bind (h.level 0) fun e=>Bal.sees (adu h e 0) (Bal.pure _))
 level k:=by
  show Bal 0 (lN F r n k);unfold lN
  have hall:∀l,levels[k]? = some l→l.all (fun x=>wt 3 x==0)=true:=fun l hl=>by
   have:levels.all (fun l=>l.all (fun x=>wt 3 x==0))=true:=by decide
   exact List.all_eq_true.1 this l (List.mem_of_getElem? hl)
  cases hl:levels[k]? with
  | none=>exact h.unary
  | some l=>exact Bal.bind (h.level (k+1)) fun e=>abG h k l (hall l hl) n e
 unary:=Bal.sees (abA.bind (acS 3) fun _=>Bal.bind h.unary fun _=>Bal.pure _)
  (Bal.bind h.primary fun e=>abH h n e)
 primary:=ac2 h n
omit h
theorem adx:∀n,agh (recs F n)
 | 0=>⟨Bal.out,Bal.out,Bal.out,fun _=>Bal.out,Bal.out,Bal.out,Bal.out,fun _=>Bal.out,Bal.out,Bal.out⟩
 | n+1=>afu (adx n) n
theorem aa7:∀n ks,Bal (-1) (nJ F n ks)
 | 0,_=>Bal.out
 | n+1,ks=>Bal.bind (aaD 1) fun _=>Bal.skip (aa7 n _) (Bal.bind (aag 3 _) fun _=>Bal.pure _)
include h in
theorem ab9 (n:Nat):Bal 0 (iD F r n) :=
 Bal.bind (aaD 1) fun _=>Bal.bind (aag 3 _) fun _=>Bal.bind (Bal.skip (Bal.pure _) (aa7 n [])) fun _=>Bal.bind h.block fun _=>Bal.pure _
include h in
theorem aaM (q:Nat):∀n ks,Bal 0 (jT F r q n ks)
 | 0,_=>Bal.out
 | n+1,ks=>Bal.look fun t=>aah.ite (fun _=>(Bal.pure _).l t) fun _=>(Bal.skip (Bal.bind (aaD 1) fun _=>Bal.bind (aag 3 _) fun _=>aaM q n _)
   (Bal.skip (Bal.bind (ab9 h q) fun _=>aaM q n _) aaK)).l t
end
theorem aeI (s:Bytes) (t:Tok) (k:Nat) (h:bM s=.ok (t,k)):t.kind≠7:=by
 cases s with
 | nil=>cases h
 | cons c r =>
  simp only[bM]at h;split at h
  ·unfold gq at h;simp only at h
   repeat' split at h
   all_goals cases h
   all_goals simp
  split at h
  ·unfold aP at h;split at h
   ·cases h;simp
   ·cases h
  split at h
  ·unfold jD at h;split at h
   ·cases h;simp
   ·cases h
  split at h
  ·have:=aaO _ _ (Nat.le_refl _) _ _ _ _ h
   omega
  ·have:=(abL _ _ _ h).1
   omega
theorem aaE:∀(f:Nat) (s:Bytes) (a:Nat),∀t∈(lexFrom f s a).1,t.kind=7→(lexFrom f s a).2=⟨0,0⟩∧t.at'=((a+s.length:Nat):Int)
 | 0,s,a=>by simp[lexFrom]
 | f+1,[],a=>by simp[lexFrom]
 | f+1,c::s,a=>by
  simp only[lexFrom];split
  ·intro t ht hk
   have:=aaE f s (a+1) t ht hk
   exact⟨this.1,by rw[this.2];simp;omega⟩
  split
  ·intro t ht hk;have hl:=qP (fun d=>d != 10) (c::s)
   have:=aaE f _ _ t ht hk
   exact⟨this.1,by rw[this.2,List.length_drop];omega⟩
  ·cases hn:bM (c::s) with
   | error e=>simp
   | ok p =>
    obtain⟨u,k⟩:=p
    intro t ht hk;have hl:=yx _ _ _ hn;rcases List.mem_cons.1 ht with rfl|ht
    ·exact absurd hk (aeI (c::s) u k hn)
    ·have:=aaE f _ _ t ht hk
     exact⟨this.1,by rw[this.2,List.length_drop];omega⟩
theorem abQ {F:dS} {r:Rec} {q:Nat}:∀(n:Nat) (ks:List Tree) (ts:TS) (ks':List Tree) (ts':TS),jT F r q n ks ts=some (.ok (ks',ts'))→∃t o rest,ts'=(t,o)::rest∧t.kind=7
 | 0,_,_,_,_,h=>by cases h
 | n+1,ks,ts,ks',ts',h=>by
  unfold jT at h;obtain⟨t,t1,h1,h2⟩:=bind_ok h
  obtain⟨o,rr,rfl,rfl⟩:=jk F h1
  split at h2
  ·rename_i hk;rw[aZ]at h2
   cases h2;exact⟨t,o,rr,rfl,beq_iff_eq.1 hk⟩
  obtain⟨b,t2,h3,h4⟩:=bind_ok h2
  split at h4
  ·obtain⟨u,t3,h5,h6⟩:=bind_ok h4
   obtain⟨_,t4,h7,h8⟩:=bind_ok h6
   exact abQ n _ _ _ _ h8
  obtain⟨c,t5,h9,h10⟩:=bind_ok h4
  split at h10
  ·obtain⟨f,t6,h11,h12⟩:=bind_ok h10
   exact abQ n _ _ _ _ h12
  ·obtain⟨u,t3,h5,h6⟩:=bind_ok h10
   cases h6
theorem abR {F:dS} {E B0:Tok × Int} {B':TS} (S:aeE E B0) {r r':Rec} (h:afU E B0 B' r r') {q q':Nat} (hq:q≤q'):∀(n:Nat) (ks:List Tree) (A:TS) (ks':List Tree),jT F r q n ks (A++[E])=some (.ok (ks',[E]))→∀d,∃e,d<e∧jT F r' q' (n+d) ks (A++B0::B')=jT F r' q' e ks' (B0::B')
 | 0,_,_,_,hh=>by cases hh
 | n+1,ks,A,ks',hh=>by
  intro d;have hh0:=hh;unfold jT at hh;obtain⟨t,t1,h1,h2⟩:=bind_ok hh
  cases A with
  | nil =>
   have e1:look F ([]++[E])=some (.ok (E.1,[E])):=by rw[List.nil_append,show E=(E.1,E.2)from rfl,aal,S.eo];rfl
   rw[e1]at h1
   cases h1;have ek:(E.1.kind==7)=true:=by rw[S.e];rfl
   rw[ek,if_pos rfl,aZ]at h2
   cases h2;exact⟨n+1+d,by omega,rfl⟩
  | cons a A =>
   obtain⟨u,o⟩:=a
   have ho:(opens u&&decide (64≤o))=false:=by
    cases hc:opens u&&decide (64≤o)
    ·rfl
    ·rw[List.cons_append,aal,hc]at h1;cases h1
   rw[List.cons_append,aal,ho]at h1
   cases h1;rw[show n+1+d=n+d+1 by omega,jT.eq_def];show ∃e,d<e∧(look F >>= _) _=_;rw[bind_eq,P.bind,List.cons_append,aal,ho];simp only[Bool.false_eq_true,if_false];split at h2
   ·rw[aZ]at h2
    simp only[Option.some.injEq,Except.ok.injEq,Prod.mk.injEq]at h2
    have:=congrArg List.length h2.2
    simp at this
   rename_i hk;rw[if_neg hk];obtain⟨b,t2,h3,h4⟩:=bind_ok h2
   obtain⟨R,rfl,h5⟩:=aam (F:=F) (B':=B') S 2 [108,101,116] rfl rfl (_::A) b t2 h3
   rw[bind_eq,P.bind];simp only[List.cons_append]at h5;rw[h5];simp only;split at h4
   ·rename_i hb;rw[if_pos hb];obtain⟨v,t3,h6,h7⟩:=bind_ok h4
    obtain⟨R2,rfl,h8⟩:=aar (F:=F) (B':=B') S 1 rfl R v t3 h6
    rw[bind_eq,P.bind,h8];simp only;obtain⟨_,t4,h9,h10⟩:=bind_ok h7
    obtain⟨R3,rfl,h11⟩:=aaf (F:=F) (B':=B') S 3 [59] rfl R2 _ t4 h9
    rw[bind_eq,P.bind,h11];exact abR S h hq n _ R3 ks' h10 d
   rename_i hb;rw[if_neg hb];obtain⟨c,t3,h6,h7⟩:=bind_ok h4
   split at h7
   ·rename_i hc;subst hc
    have hR:∃R2,t3=R2++[E]∧skip F 2 [102,110] (R++B0::B')=some (.ok (true,R2++B0::B')):=by
     cases R with
     | nil =>
      rw[List.nil_append,show E=(E.1,E.2)from rfl,aau,S.eo,S.e]at h6
      cases h6
     | cons a R =>
      obtain⟨w,o2⟩:=a
      rw[List.cons_append,aau]at h6
      rw[List.cons_append,aau];split at h6
      ·cases h6
      rename_i k1;rw[if_neg k1];split at h6
      ·rename_i k2;cases h6;exact⟨R,rfl,by rw[if_pos k2]⟩
      ·cases h6
    obtain⟨R2,rfl,h8⟩:=hR
    rw[bind_eq,P.bind,h8];simp only[if_true];obtain⟨f,t4,h9,h10⟩:=bind_ok h7
    obtain⟨R3,rfl,h11⟩:=ab3 (F:=F) S h q q' hq R2 f t4 h9
    rw[bind_eq,P.bind,h11];exact abR S h hq n _ R3 ks' h10 d
   ·obtain⟨u,t3,h5,h6⟩:=bind_ok h7
    cases h6
def cnt (l:List Tok) (n:Int):Int:=l.foldl (fun n t=>nx t n) n
theorem aav:∀(l l':List Tok) (n:Int),iM (l++l') n=iM l n++iM l' (cnt l n)
 | [],_,_=>rfl
 | t::l,l',n=>by
  show(t,n)::iM (l++l') (nx t n)=(t,n)::(iM l (nx t n)++iM l' (cnt l (nx t n)))
  rw[aav l l']
theorem ac3 (s:Bytes) (T:Tree) (ts':TS) (hs:s.length≤60000) (hp:fU (aM s).2 (fuel s) (iM (aM s).1 0)=some (.ok (T,ts'))) :
  ∃L ks,T=leaf 1 0 [] ks∧(∀q,q.length≤1000→aM (s++10::q)=(L++(lexFrom (q.length+2) (10::q) s.length).1,(lexFrom (q.length+2) (10::q) s.length).2)) ∧
   jT ⟨0,0⟩ (recs ⟨0,0⟩ (fuel s)) (fuel s) (fuel s) [] (iM L 0++[(eof s.length,0)])=some (.ok (ks,[(eof s.length,0)]))∧cnt L 0=0∧fuel s=L.length*32+33:=by
 have hp0:=hp;unfold fU at hp;obtain⟨ks,t1,h1,h2⟩:=bind_ok hp
 rw[aZ]at h2
 cases h2;obtain⟨t,o,rest,rfl,hk⟩:=abQ _ _ _ _ _ h1
 obtain⟨hch,afX⟩:=aaM (adx (F:=(aM s).2) (fuel s)) (fuel s) (fuel s) [] 0 _ _ _ (ads _ _) h1
 have hmem:∀(l:List Tok) (n:Int) (p:Tok × Int),p∈iM l n→p.1∈l:=by
  intro l
  induction l with
  | nil=>intro n p hp;cases hp
  | cons a l ih =>
   intro n p hp;rcases List.mem_cons.1 hp with rfl|hp
   ·exact List.mem_cons_self
   ·exact List.mem_cons_of_mem _ (ih _ _ hp)
 have ht:t∈(aM s).1:=hmem _ _ _ (afX.subset List.mem_cons_self);have hlx:aM s=lexFrom (s.length+1) s 0:=by unfold aM;rw[if_neg (by omega)]
 obtain⟨h7a,h7b⟩:=aaE (s.length+1) s 0 t (by rw[←hlx];exact ht) hk
 obtain⟨L,hL,hmore⟩:∃L,(lexFrom (s.length+1) s 0).1=L++[eof (0+s.length)]∧∀q:Bytes,∀g,(s++10::q).length<g→lexFrom g (s++10::q) 0=(L++(lexFrom (q.length+2) (10::q) (0+s.length)).1,(lexFrom (q.length+2) (10::q) (0+s.length)).2):=by
  obtain⟨L,e1,_⟩:=aas [] (s.length+1) s 0 (by omega) h7a
  refine⟨L,e1,fun q g hg=>?_⟩;obtain⟨L',e2,e3⟩:=aas q (s.length+1) s 0 (by omega) h7a
  rw[e1]at e2
  obtain rfl:=(List.append_inj_left' e2 rfl)
  exact e3 g hg
 rw[Nat.zero_add]at hL hmore
 rw[←hlx]at hL h7a
 have hno:∀u∈L,u.kind≠7:=by
  intro u hu hk7;have h8:=(aaE (s.length+1) s 0 u (by rw[←hlx,hL];exact List.mem_append_left _ hu) hk7).2;have h9:=(aaP s).2;rw[hL,List.pairwise_append]at h9
  have h10:=h9.2.2 u hu (eof s.length) List.mem_cons_self;rw[h8]at h10
  simp[eof]at h10
 rw[hL,aav]at afX
 have afY:iM [eof s.length] (cnt L 0)=[(eof s.length,cnt L 0)]:=rfl;rw[afY]at afX
 have hlast:(t,o)::rest=[(eof s.length,cnt L 0)]:=by
  obtain⟨pre,hpre⟩:=afX
  rcases List.append_eq_append_iff.1 hpre with⟨ax,h3,h4⟩|⟨bs,h3,h4⟩
  ·cases ax with
   | nil=>rw[List.nil_append]at h4;exact h4
   | cons a ax =>
    exfalso;rw[List.cons_append]at h4
    injection h4 with h5 h6
    have:(t,o)∈iM L 0:=by rw[h3];exact List.mem_append_right _ (by rw[h5];exact List.mem_cons_self)
    exact hno t (hmem _ _ _ this) hk
  ·cases bs with
   | nil=>rw[List.nil_append]at h4;exact h4.symm
   | cons b bs =>
    have:=congrArg List.length h4
    simp at this
 rw[hlast]at hch h1
 have ho:cnt L 0=0:=by have:=hch.1;simpa using this
 refine⟨L,ks,rfl,fun q hq=>?_,?_,ho,?_⟩
 ·have h11:=hmore q ((s++10::q).length+1) (by omega);unfold aM;rw[if_neg (by simp;omega)];exact h11
 ·rw[hL,aav,afY,ho,h7a]at h1
  exact h1
 ·unfold fuel;rw[hL];simp;omega
theorem abS {z:Bytes}:∀T:Tree,(∀m∈T.row,m.text≠z)→T.all (adk z)
 | .mk n ks,h=>⟨h { n with kids:=(ks.length:Int) } List.mem_cons_self,acW ks (fun m hm=>h m (List.mem_cons_of_mem _ hm))⟩
where acW:∀l:List Tree,(∀m∈rows l,m.text≠z)→oH (adk z) l
 | [],_=>trivial
 | t::l,h=>⟨abS t (fun m hm=>h m (List.mem_append_left _ hm)),acW l (fun m hm=>h m (List.mem_append_right _ hm))⟩
theorem abU (E:Env) (ks:List Tree) (s:CS):jg E (leaf 1 0 [] ks) 0 0 s=gu E ks 1 0 s:=by
 unfold leaf jg;rfl
end Ck
end
