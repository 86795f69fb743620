/- A part of the proof. -/
import Derived.Test.YtoomapkcoibmhaaGreatDoorQ1
set_option maxRecDepth 100000
set_option maxHeartbeats 12800000
set_option linter.all false
section
namespace Ck
theorem Pr.bind_eq {α β:Type} (x:Pr α) (f:α→Pr β) (s:List Node × List Bytes):(x >>= f) s=Pr.bind x f s:=rfl
theorem Pr.aZ {α:Type} (a:α) (s:List Node × List Bytes):(Pure.pure a:Pr α) s=some (some (a,s)):=rfl
def bA (n:Node):Nat:=n.text.length*5+(EF n.int).length+(iQ n.bits.toNat).length+400
theorem Pb (n:Node):n.text.length*5+400≤bA n:=by unfold bA;omega
def cost (l:List Node):Nat:=(l.map bA).sum
def phi (s:List Node × List Bytes):Nat:=tw s.2+cost s.1
def bQ {α:Type} (m:Pr α) (Q:α→Nat→Nat→Prop) (L c:Nat):Prop :=
 ∀s:List Node × List Bytes,s.1.length≤L→phi s+c≤wV→m s≠none∧∀a s',m s=some (some (a,s'))→∃L' c',s'.1.length≤L'∧phi s'+c'≤phi s+c∧Q a L' c'
section
variable {α β:Type} {L c:Nat}
theorem bQ.bind {x:Pr α} {f:α→Pr β} {Q:β→Nat→Nat→Prop} (h:bQ x (fun a L' c'=>bQ (f a) Q L' c') L c):bQ (x >>= f) Q L c:=by
 intro s hl hc;obtain⟨h1,h2⟩:=h s hl hc
 rw[Pr.bind_eq];unfold Pr.bind;split
 ·rename_i he;exact absurd he h1
 ·exact⟨by simp,fun a s' e=>by cases e⟩
 ·rename_i a s1 he;obtain⟨L1,c1,g1,g2,g3⟩:=h2 a s1 he
  obtain⟨k1,k2⟩:=g3 s1 g1 (by omega)
  refine⟨k1,fun b s2 e=>?_⟩;obtain⟨L2,c2,j1,j2,j3⟩:=k2 b s2 e
  exact⟨L2,c2,j1,by omega,j3⟩
theorem bQ.pure {a:α} {Q:α→Nat→Nat→Prop} (h:Q a L c):bQ (pure a:Pr α) Q L c:=by
 intro s hl hc;rw[Pr.aZ];exact⟨by simp,fun b s' e=>by cases e;exact⟨L,c,hl,Nat.le_refl _,h⟩⟩
theorem bQ.mono {m:Pr α} {Q R:α→Nat→Nat→Prop} {L' d:Nat} (h:bQ m Q L' d) (hL:L≤L') (hd:d≤c) (hQ:∀a l k,Q a l k→R a l (k+(c-d))):bQ m R L c:=by
 intro s hl hc;obtain⟨h1,h2⟩:=h s (by omega) (by omega)
 refine⟨h1,fun a s' e=>?_⟩;obtain⟨l,k,g1,g2,g3⟩:=h2 a s' e
 exact⟨l,k+(c-d),g1,by omega,hQ a l k g3⟩
theorem bQ.ite {b:Prop} [Decidable b] {x y:Pr α} {Q:α→Nat→Nat→Prop} (hx:b→bQ x Q L c) (hy:¬b→bQ y Q L c):bQ (if b then x else y) Q L c:=by
 split
 ·rename_i h;exact hx h
 ·rename_i h;exact hy h
end
theorem gB {b:Bool} {Q:Unit→Nat→Nat→Prop} {L c:Nat} (h:b=true→Q () L c):bQ (fit b) Q L c:=by
 intro s hl hc;unfold fit;split
 ·rename_i hb;exact⟨by simp,fun a s' e=>by cases e;exact⟨L,c,hl,Nat.le_refl _,h hb⟩⟩
 ·exact⟨by simp,fun a s' e=>by cases e⟩
theorem xB (a b:List Bytes):tw (a++b)=tw a+tw b:=by simp[tw]
theorem pJ (x:Bytes) (l:List Bytes):tw (x::l)=x.length+16+tw l:=by simp[tw]
theorem Fe:tw []=0:=rfl
theorem aac {l:List Bytes} {Q:Unit→Nat→Nat→Prop} {L c:Nat} (hw:tw l≤c) (h:Q () L (c-tw l)):bQ (put l) Q L c:=by
 intro s hl hc;unfold put;have hp:phi s=tw s.2+cost s.1:=rfl;rw[if_pos (by rw[xB];omega)];refine⟨by simp,fun a s' e=>?_⟩;cases e;exact⟨L,c-tw l,hl,by show tw (s.2++l)+cost s.1+_≤_;rw[xB];omega,h⟩
theorem j4 {Q:Int→Nat→Nat→Prop} {L c:Nat} (h:∀k,Q k L c):bQ mP Q L c:=by
 intro s hl hc;exact⟨by simp[mP],fun a s' e=>by cases e;exact⟨L,c,hl,Nat.le_refl _,h _⟩⟩
theorem gL {t u v:Bool} {Q:Node→Nat→Nat→Prop} {L c:Nat} (h:∀n,1≤L→Q n (L-1) (c+bA n)):bQ (jw t u v) Q L c:=by
 intro s hl hc;obtain⟨l,toks⟩:=s
 unfold jw;cases l with
 | nil=>exact⟨by simp,fun a s' e=>by cases e⟩
 | cons n l =>
  simp only;split
  ·refine⟨by simp,fun a s' e=>?_⟩;cases e;simp only[List.length_cons]at hl
   have:phi (n::l,toks)=phi (l,toks)+bA n:=by simp[phi,cost];omega
   exact⟨L-1,c+bA n,by show l.length≤_;omega,by omega,h n (by omega)⟩
  ·exact⟨by simp,fun a s' e=>by cases e⟩
theorem qw {s:Bytes} {Q:Bytes→Nat→Nat→Prop} {L c:Nat} (h:Q s L c):bQ (nameP s) Q L c :=
 bQ.bind (gB fun _=>bQ.pure h)
theorem lV {kind kids:Int} {Q:Bytes→Nat→Nat→Prop} {L c:Nat} (h:∀n,1≤L→Q n.text (L-1) (c+bA n)):bQ (jo kind kids) Q L c :=
 bQ.bind (j4 fun _=>bQ.bind (gB fun _=>bQ.bind (gL fun n hl=>bQ.bind (gB fun _=>qw (h n hl)))))
theorem kZ {kind kids:Int} {Q:Unit→Nat→Nat→Prop} {L c:Nat} (h:∀n,1≤L→Q () (L-1) (c+bA n)):bQ (oh kind kids) Q L c :=
 bQ.bind (j4 fun _=>bQ.bind (gB fun _=>bQ.bind (gL fun n hl=>gB fun _=>h n hl)))
def jq (m:Pr Unit) (L:Nat):Prop:=∀l,l≤L→bQ m (fun _ l' c'=>l'+1≤l∧150≤c') l 100
theorem jq.use {m:Pr Unit} {L l c:Nat} (h:jq m L) (hl:l≤L) (hc:100≤c) {Q:Unit→Nat→Nat→Prop} (hQ:∀l' c',l'+1≤l→c+50≤c'→Q () l' c'):bQ m Q l c :=
 (h l hl).mono (Nat.le_refl _) hc (fun _ l' k ⟨h1,h2⟩=>hQ l' _ h1 (by omega))
theorem Fg {x:Pr Unit} {L:Nat} (h:jq x L):∀(n l c:Nat) (Q:Unit→Nat→Nat→Prop),l≤L→100≤c→(∀l' c',l'≤l→c≤c'→Q () l' c')→bQ (uJ x n) Q l c
 | 0,l,c,Q,_,_,hQ=>bQ.pure (hQ _ _ (Nat.le_refl _) (Nat.le_refl _))
 | n+1,l,c,Q,hl,hc,hQ=>bQ.bind (h.use hl hc fun l' c' h1 h2=>Fg h n l' c' Q (by omega) (by omega) (fun l'' c'' g1 g2=>hQ _ _ (by omega) (by omega)))
section
variable {r:gG} {L:Nat}
theorem yD (he:jq r.expr L) {l c:Nat} {Q:Unit→Nat→Nat→Prop} (hl:l≤L) (hc:150≤c) (hQ:∀l' c',l'+2≤l→c≤c'→Q () l' c'):bQ (jU r) Q l c:=by
 unfold jU;refine bQ.bind (he.use hl (by omega) fun l1 c1 h1 h2=>bQ.bind (aac (by simp[tw];omega) ?_));refine bQ.bind (he.use (by omega) (by simp[tw];omega) fun l2 c2 h3 h4=>aac (by simp[tw]at h4 ⊢;omega) (hQ _ _ (by omega) (by simp[tw]at h4 ⊢;omega)))
theorem GK (he:jq r.expr L) {l c:Nat} {w:Bytes} {Q:Unit→Nat→Nat→Prop} (hl:l≤L) (hc:200+w.length≤c) (hQ:∀l' c',l'+2≤l→c≤c'+w.length→Q () l' c'):bQ (yu r w) Q l c:=by
 unfold yu;refine bQ.bind (aac (by simp[tw];omega) ?_);refine bQ.bind (he.use hl (by simp[tw];omega) fun l1 c1 h1 h2=>bQ.bind (aac (by simp[tw]at h2 ⊢;omega) ?_));refine bQ.bind (he.use (by omega) (by simp[tw]at h2 ⊢;omega) fun l2 c2 h3 h4=>aac (by simp[tw]at h2 h4 ⊢;omega) (hQ _ _ (by omega) (by simp[tw]at h2 h4 ⊢;omega)))
theorem GL (he:jq r.expr L):∀(n l c:Nat) (Q:Unit→Nat→Nat→Prop),l≤L→150≤c→(∀l' c',l'≤l→c≤c'→Q () l' c')→bQ (tQ r n) Q l c
 | 0,l,c,Q,_,_,hQ=>bQ.pure (hQ _ _ (Nat.le_refl _) (Nat.le_refl _))
 | n+1,l,c,Q,hl,hc,hQ=>by
  unfold tQ;refine bQ.bind (aac (by simp[tw];omega) ?_);exact bQ.bind (he.use hl (by simp[tw];omega) fun l' c' h1 h2=>GL he n l' c' Q (by omega) (by simp[tw]at h2;omega) (fun l'' c'' g1 g2=>hQ _ _ (by omega) (by simp[tw]at h2;omega)))
theorem Aj:∀(n l c:Nat) (Q:Unit→Nat→Nat→Prop),150≤c→(∀l' c',l'≤l→c≤c'→Q () l' c')→bQ (mq n) Q l c
 | 0,l,c,Q,_,hQ=>bQ.pure (hQ _ _ (Nat.le_refl _) (Nat.le_refl _))
 | n+1,l,c,Q,hc,hQ=>by
  unfold mq;refine bQ.bind (aac (by simp[tw];omega) ?_);refine bQ.bind (lV fun m hm=>?_);refine bQ.bind (aac (by simp[tw,bA];omega) ?_);exact Aj n _ _ Q (by simp[tw,bA];omega) (fun l'' c'' g1 g2=>hQ _ _ (by omega) (by simp[tw,bA]at g2;omega))
theorem JI (c:UInt8):(dA c).length≤4:=by
 unfold dA
 repeat (split;· simp)
 simp
theorem DR (s:Bytes):(quote s).length≤4*s.length+2:=by
 have:∀s:Bytes,(s.flatMap dA).length≤4*s.length:=by
  intro s
  induction s with
  | nil=>simp
  | cons c s ih=>have:=JI c;rw[List.flatMap_cons,List.length_append,List.length_cons];omega
 have:=this s
 simp only[quote,List.length_cons,List.length_append,List.length_nil];omega
theorem JJ (hs:jq r.statement L):jq (uK r) (L+1):=by
 intro l hl;unfold uK;refine bQ.bind (j4 fun k=>bQ.bind (gB fun _=>bQ.bind (aac (by simp[tw]) (bQ.bind (gL fun n h1=>?_)))));refine bQ.bind (Fg hs _ _ _ _ (by omega) (by simp[tw,bA];omega) fun l' c' g1 g2=>aac (by simp[tw,bA]at g2 ⊢;omega) ⟨by omega,by simp[tw,bA]at g2 ⊢;omega⟩)
theorem GN (he:jq r.expr L) (hb:jq r.block L) (hc:jq r.choice L):jq (pE r) (L+1):=by
 intro l hl;unfold pE;refine bQ.bind (gL fun n h1=>bQ.bind (gB fun _=>bQ.bind (aac (by simp[tw,bA];omega) ?_)));refine bQ.bind (he.use (by omega) (by simp[tw,bA];omega) fun l1 c1 g1 g2=>?_);have g2':400≤c1:=by simp[tw,bA]at g2;omega
 refine bQ.bind (hb.use (by omega) (by omega) fun l2 c2 k1 k2=>?_);refine bQ.ite (fun _=>bQ.pure ⟨by omega,by omega⟩) (fun _=>?_);refine bQ.bind (aac (by simp[tw];omega) ?_);refine bQ.bind (j4 fun k=>bQ.ite (fun _=>?_) (fun _=>?_))
 ·exact hc.use (by omega) (by simp[tw];omega) fun l3 c3 j1 j2=>⟨by omega,by simp[tw]at j2;omega⟩
 ·exact hb.use (by omega) (by simp[tw];omega) fun l3 c3 j1 j2=>⟨by omega,by simp[tw]at j2;omega⟩
theorem MQ (he:jq r.expr L) (hb:jq r.block L):jq (yt r) (L+1):=by
 intro l hl;unfold yt;refine bQ.bind (j4 fun k=>bQ.bind (gL fun n h1=>?_))
 have fin:∀(l0 c0:Nat),l0+1≤l→300≤c0→bQ (do r.expr;r.block) (fun _ l' c'=>l'+1≤l∧150≤c') l0 c0:=fun l0 c0 h2 h3 =>
  bQ.bind (he.use (by omega) (by omega) fun l1 c1 g1 g2=>hb.use (by omega) (by omega) fun l2 c2 k1 k2=>⟨by omega,by omega⟩)
 have VB:∀(l0 c0:Nat),l0+1≤l→n.text.length+400≤c0→bQ (do let s ←nameP n.text;put [[102,111,114],s,[105,110]];r.expr;put [[46,46]];r.expr;r.block) (fun _ l' c'=>l'+1≤l∧150≤c') l0 c0:=fun l0 c0 h2 h3=>by
  refine bQ.bind (qw (bQ.bind (aac (by simp[tw];omega) ?_)));refine bQ.bind (he.use (by omega) (by simp[tw];omega) fun l1 c1 g1 g2=>?_);refine bQ.bind (aac (by simp[tw]at g2 ⊢;omega) ?_);exact fin _ _ (by omega) (by simp[tw]at g2 ⊢;omega)
 refine bQ.ite (fun _=>?_) (fun _=>?_)
 ·refine bQ.bind (gB fun _=>?_);refine bQ.ite (fun _=>?_) (fun _=>?_)
  ·refine bQ.bind (qw (bQ.bind (aac (by simp[tw,bA];omega) ?_)));exact bQ.bind (aac (by simp[tw,bA];omega) (fin _ _ (by omega) (by simp[tw,bA];omega)))
  ·exact bQ.bind (aac (by simp[tw,bA];omega) (fin _ _ (by omega) (by simp[tw,bA];omega)))
 ·refine bQ.bind (gB fun _=>?_);refine bQ.ite (fun _=>?_) (fun _=>?_)
  ·refine bQ.bind (lV fun m hm=>bQ.bind (aac (by simp[tw,bA];omega) ?_));exact VB _ _ (by omega) (by simp[tw,bA];omega)
  ·exact VB _ _ (by omega) (by simp[bA];omega)
theorem Ak (he:jq r.expr L) (hc:jq r.choice (L+1)) (hl:jq r.loop (L+1)):jq (bf r) (L+1):=by
 intro l hll
 have fin:∀(l0 c0:Nat),l0+1≤l→300≤c0→bQ (do r.expr;put [[59]]) (fun _ l' c'=>l'+1≤l∧150≤c') l0 c0:=fun l0 c0 h2 h3 =>
  bQ.bind (he.use (by omega) (by omega) fun l1 c1 g1 g2=>aac (by simp[tw];omega) ⟨by omega,by simp[tw];omega⟩)
 have last:∀(l0 c0:Nat),l0+1≤l→300≤c0→bQ (put [[59]]) (fun _ l' c'=>l'+1≤l∧150≤c') l0 c0:=fun l0 c0 h2 h3 =>
  aac (by simp[tw];omega) ⟨by omega,by simp[tw];omega⟩
 unfold bf;refine bQ.bind (j4 fun k=>?_);refine bQ.ite (fun _=>?_) (fun _=>?_)
 ·refine bQ.bind (lV fun n h1=>bQ.bind (aac (by simp[tw,bA];omega) ?_));exact fin _ _ (by omega) (by simp[tw,bA];omega)
 refine bQ.ite (fun _=>?_) (fun _=>?_)
 ·refine bQ.bind (lV fun n h1=>bQ.bind (aac (by simp[tw,bA];omega) ?_));exact fin _ _ (by omega) (by simp[tw,bA];omega)
 refine bQ.ite (fun _=>?_) (fun _=>?_)
 ·refine bQ.bind (kZ fun n h1=>bQ.bind (yD he (by omega) (by simp only[bA];omega) fun l1 c1 g1 g2=>?_));have g3:400≤c1:=by have:=Pb n;omega
  clear g2;refine bQ.bind (aac (by simp[tw];omega) ?_);exact fin _ _ (by omega) (by simp[tw];omega)
 refine bQ.ite (fun _=>hc.use hll (by omega) fun l1 c1 g1 g2=>⟨g1,by omega⟩) (fun _=>?_);refine bQ.ite (fun _=>hl.use hll (by omega) fun l1 c1 g1 g2=>⟨g1,by omega⟩) (fun _=>?_);refine bQ.ite (fun _=>?_) (fun _=>?_)
 ·refine bQ.bind (gL fun n h1=>bQ.bind (gB fun _=>bQ.bind (aac (by split<;>simp[tw,bA]<;>omega) ?_)));have hcr:∀w:Bytes,w=(if (k==14)=true then[99,111,110,116,105,110,117,101] else[98,114,101,97,107])→tw [w]≤24:=fun w e=>by subst e;split<;>simp[tw]
  have hcr:=hcr _ rfl;refine bQ.ite (fun _=>?_) (fun _=>?_)
  ·refine bQ.bind (qw (bQ.bind (aac (by simp only[pJ,Fe,bA]at hcr ⊢;omega) ?_)));exact last _ _ (by omega) (by simp only[pJ,Fe,bA]at hcr ⊢;omega)
  ·exact last _ _ (by omega) (by simp only[pJ,Fe,bA]at hcr ⊢;omega)
 refine bQ.ite (fun _=>?_) (fun _=>?_)
 ·refine bQ.bind (gL fun n h1=>bQ.bind (gB fun _=>bQ.bind (aac (by simp[tw,bA];omega) ?_)));refine bQ.ite (fun _=>?_) (fun _=>?_)
  ·exact bQ.bind (he.use (by omega) (by simp[tw,bA];omega) fun l1 c1 g1 g2=>last _ _ (by omega) (by simp[tw,bA]at g2;omega))
  ·exact last _ _ (by omega) (by simp[tw,bA];omega)
 refine bQ.ite (fun _=>?_) (fun _=>?_)
 ·refine bQ.bind (kZ fun n h1=>bQ.bind (aac (by simp[tw,bA];omega) ?_));exact fin _ _ (by omega) (by simp[tw,bA];omega)
 ·refine bQ.bind (kZ fun n h1=>?_);exact fin _ _ (by omega) (by simp[bA];omega)
theorem MR (he:jq r.expr L):jq (fQ r) (L+1):=by
 intro l hll
 have last:∀(w:Bytes) (l0 c0:Nat),l0+1≤l→w.length+200≤c0→bQ (put [w]) (fun _ l' c'=>l'+1≤l∧150≤c') l0 c0:=fun w l0 c0 h2 h3 =>
  aac (by simp[tw];omega) ⟨by omega,by simp[tw];omega⟩
 unfold fQ;refine bQ.bind (j4 fun k=>?_);refine bQ.ite (fun _=>?_) (fun _=>?_)
 ·have hw:∀w:Bytes,w=(if (k==19)=true then[97,110,100] else[111,114])→w.length≤3:=fun w e=>by subst e;split<;>simp
  have hw:=hw _ rfl;exact bQ.bind (kZ fun n h1=>GK he (by omega) (by simp only[bA];omega) fun l1 c1 g1 g2=>⟨by omega,by simp only[bA]at g2;omega⟩)
 refine bQ.ite (fun _=>?_) (fun _=>?_)
 ·refine bQ.bind (kZ fun n h1=>bQ.bind (aac (by simp[tw,bA];omega) ?_));exact bQ.bind (he.use (by omega) (by simp[tw,bA];omega) fun l1 c1 g1 g2=>last _ _ _ (by omega) (by simp[tw,bA]at g2 ⊢;omega))
 refine bQ.ite (fun _=>?_) (fun _=>?_)
 ·exact bQ.bind (gL fun n h1=>bQ.bind (gB fun _=>GK he (by omega) (by simp only[bA];omega) fun l1 c1 g1 g2=>⟨by omega,by simp only[bA]at g2;omega⟩))
 refine bQ.ite (fun _=>?_) (fun _=>?_)
 ·refine bQ.bind (gL fun n h1=>bQ.bind (gB fun _=>bQ.bind (aac (by simp[tw,bA];omega) ?_)));exact bQ.bind (he.use (by omega) (by simp[tw,bA];omega) fun l1 c1 g1 g2=>last _ _ _ (by omega) (by simp[tw,bA]at g2 ⊢;omega))
 refine bQ.ite (fun _=>?_) (fun _=>?_)
 ·refine bQ.bind (gL fun n h1=>bQ.bind (qw (bQ.bind (aac (by simp[tw,bA];omega) ?_))));have hc:400≤100+bA n-tw [n.text,[40]]:=by simp[tw,bA];omega
  generalize 100+bA n-tw [n.text,[40]]=c0 at hc;refine bQ.bind ?_;split
  ·exact bQ.pure (last _ _ _ (by omega) (by simp;omega))
  ·exact bQ.bind (he.use (by omega) (by omega) fun l1 c1 g1 g2=>GL he _ _ _ _ (by omega) (by omega) fun l2 c2 k1 k2=>last _ _ _ (by omega) (by simp;omega))
 refine bQ.ite (fun _=>?_) (fun _=>?_)
 ·exact bQ.bind (kZ fun n h1=>yD he (by omega) (by simp only[bA];omega) fun l1 c1 g1 g2=>⟨by omega,by simp only[bA]at g2;omega⟩)
 refine bQ.ite (fun _=>?_) (fun _=>?_)
 ·exact bQ.bind (lV fun n h1=>last _ _ _ (by omega) (by simp only[bA];omega))
 refine bQ.ite (fun _=>?_) (fun _=>?_)
 ·exact bQ.bind (gL fun n h1=>bQ.bind (gB fun _=>last _ _ _ (by omega) (by simp only[bA];omega)))
 refine bQ.ite (fun _=>?_) (fun _=>?_)
 ·exact bQ.bind (gL fun n h1=>bQ.bind (gB fun _=>last _ _ _ (by omega) (by simp only[bA];omega)))
 refine bQ.ite (fun _=>?_) (fun _=>?_)
 ·exact bQ.bind (gL fun n h1=>bQ.bind (gB fun _=>last _ _ _ (by omega) (by have:=DR n.text;simp only[bA];omega)))
 refine bQ.ite (fun _=>?_) (fun _=>?_)
 ·exact bQ.bind (kZ fun n h1=>last _ _ _ (by omega) (by simp[bA];omega))
 refine bQ.ite (fun _=>?_) (fun _=>?_)
 ·exact bQ.bind (kZ fun n h1=>last _ _ _ (by omega) (by simp[bA];omega))
 ·exact bQ.bind (kZ fun n h1=>last _ _ _ (by omega) (by simp[bA];omega))
end
theorem jq.zero {m:Pr Unit} (h:∀toks,m ([],toks)=some none):jq m 0:=by
 intro l hl s hs hc;obtain⟨ns,toks⟩:=s
 obtain rfl:ns=[]:=List.eq_nil_of_length_eq_zero (by simp at hs;omega);rw[h];exact⟨by simp,fun a s' e=>by cases e⟩
theorem oF:∀n L,(2*L+1≤n→jq (precs n).block L∧jq (precs n).choice L∧jq (precs n).loop L∧jq (precs n).expr L)∧(2*L+2≤n→jq (precs n).statement L)
 | 0,L=>⟨fun h=>by omega,fun h=>by omega⟩
 | n+1,L=>by
  refine⟨fun h=>?_,fun h=>?_⟩
  ·cases L with
   | zero=>exact⟨jq.zero fun t=>rfl,jq.zero fun t=>rfl,jq.zero fun t=>rfl,jq.zero fun t=>rfl⟩
   | succ L =>
    obtain⟨a,b,c,d⟩:=(oF n L).1 (by omega)
    have e:=(oF n L).2 (by omega);exact⟨JJ e,GN d a b,MQ d a,MR d⟩
  ·cases L with
   | zero=>exact jq.zero fun t=>rfl
   | succ L =>
    obtain⟨a,b,c,d⟩:=(oF n L).1 (by omega)
    obtain⟨_,b',c',_⟩:=(oF n (L+1)).1 (by omega)
    exact Ak d b' c'
theorem CW {r:gG} {L:Nat} (hb:jq r.block L):jq (kM r) L:=by
 intro l hl;unfold kM;refine bQ.bind (j4 fun k=>bQ.bind (gB fun _=>bQ.bind (gL fun n h1=>bQ.bind (gB fun _=>bQ.bind (qw (bQ.bind (aac (by simp[tw,bA];omega) ?_)))))));have hc:400≤100+bA n-tw [[102,110],n.text,[40]]:=by simp[tw,bA];omega
 generalize 100+bA n-tw [[102,110],n.text,[40]]=c0 at hc;refine bQ.bind ?_
 have fin:∀(l0 c0:Nat),l0+1≤l→300≤c0→bQ (do put [[41]];r.block) (fun _ l' c'=>l'+1≤l∧150≤c') l0 c0:=fun l0 c0 h2 h3 =>
  bQ.bind (aac (by simp[tw];omega) (hb.use (by omega) (by simp[tw];omega) fun l1 c1 g1 g2=>⟨by omega,by simp[tw]at g2;omega⟩))
 split
 ·exact bQ.pure (fin _ _ (by omega) (by omega))
 ·refine bQ.bind (lV fun m hm=>bQ.bind (aac (by simp[tw,bA];omega) ?_));exact Aj _ _ _ _ (by simp[tw,bA];omega) fun l' c' k1 k2=>fin _ _ (by omega) (by simp only[pJ,Fe,bA,List.length_cons,List.length_nil]at k2;omega)
theorem Pg {r:gG} {L:Nat} (hb:jq r.block L):jq (yV r) L:=by
 intro l hl;unfold yV;refine bQ.bind (j4 fun k=>bQ.ite (fun _=>?_) (fun _=>CW hb l hl));exact bQ.bind (lV fun n h1=>aac (by simp[tw,bA];omega) ⟨by omega,by simp[tw,bA];omega⟩)
def vR (l:List Node):Nat:=2*l.length+1
theorem vS (l:List Node) (n:Nat) (hn:vR l≤n) (hc:cost l≤1099511627000):jV (precs n) (l,[])≠none:=by
 have hb:=((oF n l.length).1 hn).1;have ht:=Pg hb
 have:bQ (jV (precs n)) (fun _ _ _=>True) l.length 100:=by
  unfold jV;exact bQ.bind (j4 fun k=>bQ.bind (gB fun _=>bQ.bind (gL fun n h1=>Fg ht _ _ _ _ (by omega) (by simp only[bA];omega) fun _ _ _ _=>trivial)))
 exact(this (l,[]) (Nat.le_refl _) (by simp[phi,tw,wV];omega)).1
structure uQ (n:Node):Prop where
 text:n.text.length≤140737488351232
 kids:n.kids≤9223372036854775807
 JK : -9223372036854775808≤n.int
 JL:n.int≤9223372036854775807
 Al:0≤n.bits
 Am:n.bits<18446744073709551616
def print (l:List Node):Option Bytes:=(lQ (vR l) l).getD none
theorem GQ (l:List Node) (hc:cost l≤1099511627000):lQ (vR l) l=some (print l):=by
 have:=vS l (vR l) (Nat.le_refl _) hc
 unfold print;cases h:lQ (vR l) l with
 | some r=>rfl
 | none =>
  unfold lQ at h;split at h
  ·contradiction
  ·cases h
  ·split at h<;>cases h
def aR {α:Type} (k:Nat) (p:P α):Prop:=∀ts a ts',p ts=some (.ok (a,ts'))→ts'.length+k≤ts.length
def Live {α:Type} (L:Nat) (p:P α):Prop:=∀ts:TS,ts.length≤L→p ts≠none
theorem bind_eq {α β:Type} (x:P α) (f:α→P β) (ts:TS):(x >>= f) ts=P.bind x f ts:=rfl
theorem aZ {α:Type} (a:α) (ts:TS):(pure a:P α) ts=some (.ok (a,ts)):=rfl
theorem bind_ok {α β:Type} {x:P α} {f:α→P β} {ts:TS} {b:β} {ts':TS} (h:(x >>= f) ts=some (.ok (b,ts'))) :
  ∃a t1,x ts=some (.ok (a,t1))∧f a t1=some (.ok (b,ts')):=by
 rw[bind_eq]at h
 unfold P.bind at h;split at h
 ·cases h
 ·cases h
 ·rename_i a t1 he;exact⟨a,t1,he,h⟩
theorem aR.bind {α β:Type} {j k:Nat} {x:P α} {f:α→P β} (hx:aR j x) (hf:∀a,aR k (f a)):aR (j+k) (x >>= f):=by
 intro ts b ts' h;obtain⟨a,t1,h1,h2⟩:=bind_ok h
 have:=hx _ _ _ h1
 have:=hf a _ _ _ h2
 omega
theorem aR.pure {α:Type} (a:α):aR 0 (pure a:P α):=by
 intro ts b ts' h;rw[aZ]at h
 cases h;omega
theorem aR.mono {α:Type} {j k:Nat} {x:P α} (h:aR j x) (hk:k≤j):aR k x:=fun ts a ts' e=>by have:=h ts a ts' e;omega
theorem aR.fail {α:Type} (k:Nat) (f:dS):aR k (P.fail f:P α):=fun ts a ts' e=>by cases e
theorem aR.out {α:Type} (k:Nat):aR k (P.out:P α):=fun ts a ts' e=>by cases e
theorem aR.ite {α:Type} {k:Nat} {c:Prop} [Decidable c] {x y:P α} (hx:aR k x) (hy:aR k y):aR k (if c then x else y):=by
 split<;>assumption
theorem Live.bind {α β:Type} {L k:Nat} {x:P α} {f:α→P β} (hx:Live L x) (hc:aR k x) (hf:∀a,Live (L-k) (f a)):Live L (x >>= f):=by
 intro ts hl;rw[bind_eq];unfold P.bind;split
 ·rename_i he;exact absurd he (hx ts hl)
 ·simp
 ·rename_i a t1 he
  have:=hc _ _ _ he
  exact hf a t1 (by omega)
theorem Live.pure {α:Type} (L:Nat) (a:α):Live L (pure a:P α):=fun ts _=>by rw[aZ];simp
theorem Live.fail {α:Type} (L:Nat) (f:dS):Live L (P.fail f:P α):=fun ts _=>by simp[P.fail]
theorem Live.mono {α:Type} {L L':Nat} {x:P α} (h:Live L x) (hl:L'≤L):Live L' x:=fun ts ht=>h ts (by omega)
theorem Live.ite {α:Type} {L:Nat} {c:Prop} [Decidable c] {x y:P α} (hx:Live L x) (hy:Live L y):Live L (if c then x else y):=by
 split<;>assumption
section
variable (F:dS)
theorem mR:aR 0 (look F):=by
 intro ts a ts' h;unfold look at h;split at h<;>cases h;omega
theorem nX (L:Nat):Live L (look F):=by
 intro ts _;unfold look
 split<;>simp
theorem DT:aR 0 (og F):=by
 intro ts a ts' h;unfold og at h;split at h<;>cases h;omega
theorem JM (L:Nat):Live L (og F):=by
 intro ts _;unfold og
 split<;>simp
theorem zn:aR 0 oU:=by
 intro ts a ts' h;unfold oU at h;cases h;simp
theorem GR (L:Nat):Live L oU:=by intro ts _;simp[oU]
theorem lW {α:Type} (k:Nat):aR k (wrong F:P α):=by
 have:=aR.bind (mR F) (fun t=>aR.fail (α:=α) k ⟨70,t.at'⟩)
 unfold wrong;simpa using this
theorem kG {α:Type} (L:Nat):Live L (wrong F:P α):=Live.bind (nX F L) (mR F) (fun _=>Live.fail _ _)
theorem iG (k:Int) (l:List Bytes):aR 0 (sees F k l):=aR.bind (mR F) (fun _=>aR.pure _)
theorem iH (L:Nat) (k:Int) (l:List Bytes):Live L (sees F k l):=Live.bind (nX F L) (mR F) (fun _=>Live.pure _ _)
theorem eF (k:Int) (x:Bytes):aR 0 (skip F k x) :=
 aR.bind (iG F k [x]) (fun _=>aR.ite (aR.bind zn fun _=>aR.pure _) (aR.pure _))
theorem gV (L:Nat) (k:Int) (x:Bytes):Live L (skip F k x) :=
 Live.bind (iH F L k [x]) (iG F k [x]) (fun _=>Live.ite (Live.bind (GR _) zn fun _=>Live.pure _ _) (Live.pure _ _))
theorem jk {ts:TS} {t:Tok} {ts':TS} (h:look F ts=some (.ok (t,ts'))):∃o r,ts=(t,o)::r∧ts'=ts:=by
 unfold look aW at h;cases ts with
 | nil=>simp at h
 | cons p r =>
  obtain⟨t',o⟩:=p
  simp only at h;split at h<;>cases h
  rename_i he;split at he<;>cases he
  exact⟨o,r,rfl,rfl⟩
theorem nY {k:Int} {x:Bytes} {ts ts':TS} (h:skip F k x ts=some (.ok (true,ts'))):∃p,ts=p::ts':=by
 obtain⟨b,t1,h1,h2⟩:=bind_ok h
 obtain⟨t,t2,h3,h4⟩:=bind_ok h1
 obtain⟨o,r,rfl,rfl⟩:=jk F h3
 rw[aZ]at h4
 cases h4;split at h2
 ·obtain⟨_,t3,h5,h6⟩:=bind_ok h2
  cases h5;cases h6;exact⟨(t,o),rfl⟩
 ·cases h2
theorem eG (k:Int):aR 1 (take F k):=by
 intro ts a ts' hh;obtain⟨t,t1,h1,h2⟩:=bind_ok hh
 obtain⟨o,r,rfl,rfl⟩:=jk F h1
 split at h2
 ·obtain⟨_,t3,h5,h6⟩:=bind_ok h2
  cases h5;cases h6;simp
 ·exact lW F 1 _ _ _ h2
theorem jJ (L:Nat) (k:Int):Live L (take F k) :=
 Live.bind (nX F L) (mR F) (fun _=>Live.ite (Live.bind (GR _) zn fun _=>Live.pure _ _) (kG F _))
theorem bF (k:Int) (x:Bytes):aR 1 (must F k x):=by
 intro ts a ts' hh;obtain⟨t,t1,h1,h2⟩:=bind_ok hh
 obtain⟨o,r,rfl,rfl⟩:=jk F h1
 obtain⟨b,t2,h3,h4⟩:=bind_ok h2
 split at h4
 ·rename_i hb;subst hb;obtain⟨p,hp⟩:=nY F h3
  cases h4;rw[hp];simp
 ·have:=lW F 1 _ _ _ h4
  have:=eF F k x _ _ _ h3
  omega
theorem fu (L:Nat) (k:Int) (x:Bytes):Live L (must F k x) :=
 Live.bind (nX F L) (mR F) (fun _=>Live.bind (gV F _ k x) (eF F k x) (fun _=>Live.ite (Live.pure _ _) (kG F _)))
end
def iZ {α:Type} (k:Nat) (p:P α):Prop:=∀ts a ts',ts≠[]→p ts=some (.ok (a,ts'))→ts'.length+k≤ts.length
theorem aR.n {α:Type} {k:Nat} {p:P α} (h:aR k p):iZ k p:=fun ts a ts' _ e=>h ts a ts' e
theorem iZ.bind {α β:Type} {j k:Nat} {x:P α} {f:α→P β} (hx:iZ j x) (hf:∀a,aR k (f a)):iZ (j+k) (x >>= f):=by
 intro ts b ts' hn h;obtain⟨a,t1,h1,h2⟩:=bind_ok h
 have:=hx _ _ _ hn h1
 have:=hf a _ _ _ h2
 omega
theorem iZ.ite {α:Type} {k:Nat} {c:Prop} [Decidable c] {x y:P α} (hx:iZ k x) (hy:iZ k y):iZ k (if c then x else y):=by
 split<;>assumption
theorem j5:iZ 1 oU:=by
 intro ts a ts' hn h;cases ts with
 | nil=>exact absurd rfl hn
 | cons p r=>cases h;simp
theorem aR.pK {α:Type} {F:dS} {k:Nat} {f:Tok→P α} (h:∀t,iZ k (f t)):aR k (look F >>= f):=by
 intro ts a ts' hh;obtain⟨t,t1,h1,h2⟩:=bind_ok hh
 obtain⟨o,r,rfl,rfl⟩:=jk F h1
 exact h t _ _ _ (by simp) h2
theorem iZ.pK {α:Type} {F:dS} {k:Nat} {f:Tok→P α} (h:∀t,iZ k (f t)):iZ k (look F >>= f):=(aR.pK h).n
theorem aR.LG {α:Type} {F:dS} {k:Nat} {q:Int} {x:Bytes} {A B:P α} (hA:aR k A) (hB:aR (k+1) B):aR (k+1) (skip F q x >>= fun b=>if b=true then A else B):=by
 intro ts a ts' hh;obtain⟨b,t1,h1,h2⟩:=bind_ok hh
 cases b with
 | true =>
  obtain⟨p,rfl⟩:=nY F h1
  have:=hA _ _ _ (by simpa using h2)
  simp;omega
 | false =>
  have:=eF F q x _ _ _ h1
  have:=hB _ _ _ (by simpa using h2)
  omega
theorem aR.lg {α:Type} {F:dS} {k:Nat} {q:Int} {x:Bytes} {A B:P α} (hA:aR k A) (hB:aR k B):aR k (skip F q x >>= fun b=>if b=true then A else B):=by
 have:=aR.bind (eF F q x) (fun b=>aR.ite (c:=b=true) hA hB)
 simpa using this
theorem aR.mF {α:Type} {F:dS} {k:Nat} {q:Int} {l:List Bytes} {A B:P α} (hA:aR k A) (hB:aR k B):aR k (sees F q l >>= fun b=>if b=true then A else B):=by
 have:=aR.bind (iG F q l) (fun b=>aR.ite (c:=b=true) hA hB)
 simpa using this
structure MS (r:Rec):Prop where
 block:aR 1 r.block
 statement:aR 1 r.statement
 choice:aR 1 r.choice
 loop:∀l,aR 1 (r.loop l)
 expr:aR 1 r.expr
 and':aR 1 r.and'
 not':aR 1 r.not'
 level:∀k,aR 1 (r.level k)
 unary:aR 1 r.unary
 primary:aR 1 r.primary
section
variable {F:dS} {r:Rec} (h:MS r)
include h
theorem uR:∀n ks,aR 1 (rU F r n ks)
 | 0,_=>aR.out 1
 | n+1,ks=>aR.LG (k:=0) (aR.pure _) (aR.mono (aR.bind (h.statement) (fun _=>uR n _)) (by omega))
theorem JN (n:Nat):aR 1 (uI F r n) :=
 aR.mono (aR.bind (bF F 3 [123]) (fun _=>aR.bind (uR h n []) (fun _=>aR.pure _))) (by omega)
theorem sw (t:Tree):aR 1 (mO F t):=aR.mono (aR.bind (bF F 3 [59]) (fun _=>aR.pure _)) (by omega)
theorem JO:aR 1 (mX F r) :=
 aR.mono (j:=1+0) (aR.bind h.expr (fun e=>aR.ite (aR.lg (aR.mono (j:=1+0) (aR.bind h.expr (fun v=>aR.ite ((sw h _).mono (by omega)) ((sw h _).mono (by omega)))) (by omega)) ((sw h _).mono (by omega))) ((sw h _).mono (by omega)))) (by omega)
theorem GU:aR 1 (qM F r) :=
 aR.mono (j:=1+(0+(0+0))) (aR.bind (bF F 2 [105,102]) (fun _=>aR.bind (h.expr.mono (by omega)) (fun _=>aR.bind (h.block.mono (by omega)) (fun _ =>
  aR.lg (aR.mF (aR.mono (aR.bind h.choice (fun _=>aR.pure _)) (by omega)) (aR.mono (aR.bind h.block (fun _=>aR.pure _)) (by omega))) (aR.pure _))))) (by omega)
theorem MU (l:Option Tok):aR 1 (zD F r l) :=
 aR.mono (j:=1+0) (aR.bind (eG F 2) (fun t=>aR.ite
  (aR.mono (aR.bind h.expr (fun _=>aR.bind h.block (fun _=>aR.pure _))) (by omega))
  (aR.mono (aR.bind (eG F 1) (fun _=>aR.bind (bF F 2 [105,110]) (fun _=>aR.bind h.expr (fun _=>aR.bind (bF F 3 [46,46]) (fun _=>aR.bind h.expr (fun _=>aR.bind h.block (fun _=>aR.pure _))))))) (by omega)))) (by omega)
theorem DU:∀n e,aR 0 (vF F r n e)
 | 0,_=>aR.out 0
 | n+1,e=>aR.mF (aR.mono (aR.bind (bF F 2 [111,114]) (fun _=>aR.bind h.and' (fun _=>DU n _))) (by omega)) (aR.pure _)
theorem MV (n:Nat):aR 1 (Li F r n):=aR.mono (aR.bind h.and' (fun _=>DU h n _)) (by omega)
theorem GV:∀n e,aR 0 (ED F r n e)
 | 0,_=>aR.out 0
 | n+1,e=>aR.mF (aR.mono (aR.bind (bF F 2 [97,110,100]) (fun _=>aR.bind h.not' (fun _=>GV n _))) (by omega)) (aR.pure _)
theorem Ph (n:Nat):aR 1 (Rl F r n):=aR.mono (aR.bind h.not' (fun _=>GV h n _)) (by omega)
theorem Ao (e:Tree) (k:Nat):aR 1 (zF F r e k):=aR.mono (aR.bind (eG F 3) (fun _=>aR.bind (h.level k) (fun _=>aR.pure _))) (by omega)
theorem Pj:aR 1 (Mv F r) :=
 aR.mF (aR.mono (aR.bind (bF F 2 [110,111,116]) (fun _=>aR.bind h.not' (fun _=>aR.pure _))) (by omega))
  (aR.mono (j:=1+0) (aR.bind (h.level 0) (fun e=>aR.mF ((Ao h e 0).mono (by omega)) (aR.pure _))) (by omega))
theorem Ap (k:Nat) (l:List Bytes):∀n e,aR 0 (qN F r k l n e)
 | 0,_=>aR.out 0
 | n+1,e=>aR.mF (aR.mono (aR.bind (Ao h e (k+1)) (fun _=>Ap k l n _)) (by omega)) (aR.pure _)
theorem JQ (n k:Nat):aR 1 (lN F r n k):=by
 unfold lN;split
 ·exact h.unary
 ·exact aR.mono (aR.bind (h.level (k+1)) (fun _=>Ap h k _ n _)) (by omega)
theorem Aq:∀n e,aR 0 (qO F r n e)
 | 0,_=>aR.out 0
 | n+1,e=>aR.mF (aR.mono (aR.bind (bF F 3 [91]) (fun _=>aR.bind h.expr (fun _=>aR.bind (bF F 3 [93]) (fun _=>Aq n _)))) (by omega)) (aR.pure _)
theorem JR (n:Nat):aR 1 (wU F r n) :=
 aR.mF (aR.mono (aR.bind (eG F 3) (fun _=>aR.bind h.unary (fun _=>aR.pure _))) (by omega))
  (aR.mono (j:=1+0) (aR.bind h.primary (fun e=>Aq h n e)) (by omega))
theorem xC:∀n ks,aR 1 (vG F r n ks)
 | 0,_=>aR.out 1
 | n+1,ks=>aR.mono (j:=1+0) (aR.bind h.expr (fun _=>aR.lg ((xC n _).mono (by omega)) (aR.mono (aR.bind (bF F 3 [41]) (fun _=>aR.pure _)) (by omega)))) (by omega)
theorem Fh (n:Nat):aR 1 (jS F r n):=by
 refine aR.pK (fun t=>?_);refine iZ.ite (iZ.bind (k:=0) j5 (fun _=>aR.pure _)) ?_;refine iZ.ite (iZ.bind (k:=0) j5 (fun _=>aR.pure _)) ?_;refine iZ.ite (iZ.bind (k:=0) j5 (fun _=>aR.pure _)) ?_;refine iZ.ite ?_ ?_
 ·split
  ·exact iZ.bind (k:=0) j5 (fun _=>aR.pure _)
  ·exact(lW F 1).n
 refine iZ.ite (iZ.bind (k:=0) j5 (fun _=>?_)) ?_
 ·exact aR.lg (aR.lg (aR.pure _) (aR.mono (aR.bind (xC h n []) (fun _=>aR.pure _)) (by omega))) (aR.pure _)
 refine iZ.ite (aR.n (aR.LG (k:=0) (aR.mono (aR.bind h.expr (fun _=>aR.bind (bF F 3 [41]) (fun _=>aR.pure _))) (by omega)) (lW F 1))) (lW F 1).n
theorem Ar:aR 1 (iP F r):=by
 have hp:=(JO (F:=F) h).n;have he:=fun t=>(sw (F:=F) h t).mono (show 0≤1 by omega)
 have inner:∀(t:Tok) (c:Bool),iZ 1 (if c=true then(do
   oU
   oU
   if ←sees F 2 [[119,104,105,108,101],[102,111,114]]then r.loop (some t)else wrong F)
  else if (t.kind==2)=true then
   if (t.text==[108,101,116])=true then(do
    oU
    let n ←take F 1
    let _ ←must F 3 [61]
    let e ←r.expr
    mO F (leaf 6 n.at' n.text [e]))
   else if (t.text==[105,102])=true then r.choice
   else if (t.text==[119,104,105,108,101]||t.text==[102,111,114])=true then r.loop none
   else if (t.text==[98,114,101,97,107]||t.text==[99,111,110,116,105,110,117,101])=true then(do
    oU
    let k:Int:=if t.text==[99,111,110,116,105,110,117,101]then 14 else 13
    let c ←look F
    if c.kind==1 then
     let l ←take F 1
     mO F (leaf k t.at' l.text [])
    else mO F (leaf k t.at' [] []))
   else if (t.text==[114,101,116,117,114,110])=true then(do
    oU
    if ←sees F 3 [[59]]then mO F (leaf 15 t.at' [] [])
    else
     let e ←r.expr
     mO F (leaf 15 t.at' [] [e]))
   else if (t.text==[111,117,116])=true then(do
    oU
    let e ←r.expr
    mO F (leaf 16 t.at' [] [e]))
   else mX F r
  else mX F r):=by
  intro t c;refine iZ.ite ?_ (iZ.ite (iZ.ite ?_ (iZ.ite h.choice.n (iZ.ite (h.loop _).n (iZ.ite ?_ (iZ.ite ?_ (iZ.ite ?_ hp)))))) hp)
  ·exact iZ.bind (k:=0) j5 (fun _=>aR.mono (j:=0+0) (aR.bind zn (fun _=>aR.mF ((h.loop _).mono (by omega)) (lW F 0))) (by omega))
  ·exact iZ.bind (k:=0) j5 (fun _=>aR.mono (aR.bind (eG F 1) (fun _=>aR.bind (bF F 3 [61]) (fun _=>aR.bind h.expr (fun _=>he _)))) (by omega))
  ·exact iZ.bind (k:=0) j5 (fun _=>aR.mono (j:=0+0) (aR.bind (mR F) (fun _=>aR.ite (aR.mono (aR.bind (eG F 1) (fun _=>he _)) (by omega)) (he _))) (by omega))
  ·exact iZ.bind (k:=0) j5 (fun _=>aR.mF (he _) (aR.mono (aR.bind h.expr (fun _=>he _)) (by omega)))
  ·exact iZ.bind (k:=0) j5 (fun _=>aR.mono (aR.bind h.expr (fun _=>he _)) (by omega))
 refine aR.pK (fun t=>?_);intro ts a ts' hn hh;obtain⟨c,t1,h1,h2⟩:=bind_ok hh
 have e1:t1=ts:=by
  split at h1
  ·obtain⟨x,t2,h3,h4⟩:=bind_ok h1
   unfold og at h3;split at h3<;>cases h3
   cases h4;rfl
  ·cases h1;rfl
 subst e1;exact inner t c _ _ _ hn h2
theorem Pk (n:Nat):MS (step F r n) :=
 ⟨JN h n,Ar h,GU h,MU h,MV h n,Ph h n,Pj h,JQ h n,JR h n,Fh h n⟩
end
theorem qp (F:dS):∀n,MS (recs F n)
 | 0=>⟨aR.out 1,aR.out 1,aR.out 1,fun _=>aR.out 1,aR.out 1,aR.out 1,aR.out 1,fun _=>aR.out 1,aR.out 1,aR.out 1⟩
 | n+1=>Pk (qp F n) n
theorem Live.seq {α β:Type} {L k:Nat} {x:P α} {f:α→P β} (hx:Live L x) (hc:aR k x) (hf:k≤L→∀a,Live (L-k) (f a)):Live L (x >>= f):=by
 intro ts hl;rw[bind_eq];unfold P.bind;split
 ·rename_i he;exact absurd he (hx ts hl)
 ·simp
 ·rename_i a t1 he
  have:=hc _ _ _ he
  exact hf (by omega) a t1 (by omega)
theorem Live.o7 {α β:Type} {L:Nat} {x:P α} {f:α→P β} (hx:Live L x) (hc:aR 0 x) (hf:∀a,Live L (f a)):Live L (x >>= f) :=
 Live.seq hx hc (fun _ a=>hf a)
theorem Live.Au {α:Type} {F:dS} {L:Nat} {f:Tok→P α} (h:∀t,1≤L→Live L (f t)):Live L (look F >>= f):=by
 intro ts hl;rw[bind_eq];unfold P.bind;split
 ·rename_i he;exact absurd he (nX F L ts hl)
 ·simp
 ·rename_i t t1 he;obtain⟨o,r,rfl,rfl⟩:=jk F he
  exact h t (by simp at hl;omega) _ hl
theorem Live.oU {α:Type} {L:Nat} {f:Unit→P α} (hf:∀a,Live (L-1) (f a)):Live L (oU >>= f):=by
 intro ts hl;exact hf () ts.tail (by simp;omega)
structure LH (r:Rec) (n:Nat):Prop where
 block:∀L,L*32+13+1≤n→Live L r.block
 statement:∀L,L*32+14+1≤n→Live L r.statement
 choice:∀L,L*32+13+1≤n→Live L r.choice
 loop:∀L l,L*32+13+1≤n→Live L (r.loop l)
 expr:∀L,L*32+12+1≤n→Live L r.expr
 and':∀L,L*32+11+1≤n→Live L r.and'
 not':∀L,L*32+10+1≤n→Live L r.not'
 level:∀L k,L*32+(3+(6-k))+1≤n→Live L (r.level k)
 unary:∀L,L*32+2+1≤n→Live L r.unary
 primary:∀L,L*32+1+1≤n→Live L r.primary
section
variable {F:dS} {r:Rec} (h:MS r)
include h
theorem yE:∀n L ks,L<n→Live L r.statement→Live L (rU F r n ks)
 | 0,L,_,hn,_=>by omega
 | n+1,L,ks,hn,hs=>Live.o7 (gV F L 3 [125]) (eF F 3 [125]) (fun _=>Live.ite (Live.pure _ _)
   (Live.seq hs h.statement (fun hL _=>yE n (L-1) _ (by omega) (hs.mono (by omega)))))
theorem Av:∀n L e,L<n→(∀L',L'+1≤L→Live L' r.and')→Live L (vF F r n e)
 | 0,L,_,hn,_=>by omega
 | n+1,L,e,hn,hs=>Live.o7 (iH F L 2 _) (iG F 2 _) (fun _=>Live.ite
   (Live.seq (fu F L 2 _) (bF F 2 _) (fun hL _=>Live.seq (hs _ (by omega)) h.and' (fun hL' _=>Av n _ _ (by omega) (fun L' hl=>hs L' (by omega))))) (Live.pure _ _))
theorem DV:∀n L e,L<n→(∀L',L'+1≤L→Live L' r.not')→Live L (ED F r n e)
 | 0,L,_,hn,_=>by omega
 | n+1,L,e,hn,hs=>Live.o7 (iH F L 2 _) (iG F 2 _) (fun _=>Live.ite
   (Live.seq (fu F L 2 _) (bF F 2 _) (fun hL _=>Live.seq (hs _ (by omega)) h.not' (fun hL' _=>DV n _ _ (by omega) (fun L' hl=>hs L' (by omega))))) (Live.pure _ _))
theorem DW (L:Nat) (e:Tree) (k:Nat) (hs:∀L',L'+1≤L→Live L' (r.level k)):Live L (zF F r e k) :=
 Live.seq (jJ F L 3) (eG F 3) (fun hL _=>Live.seq (hs _ (by omega)) (h.level k) (fun _ _=>Live.pure _ _))
theorem yF (k:Nat) (l:List Bytes):∀n L e,L<n→(∀L',L'+1≤L→Live L' (r.level (k+1)))→Live L (qN F r k l n e)
 | 0,L,_,hn,_=>by omega
 | n+1,L,e,hn,hs=>Live.o7 (iH F L 3 _) (iG F 3 _) (fun _=>Live.ite
   (Live.seq (DW h L e (k+1) hs) (Ao h e (k+1)) (fun hL _=>yF k l n _ _ (by omega) (fun L' hl=>hs L' (by omega)))) (Live.pure _ _))
theorem yG:∀n L e,L<n→(∀L',L'+1≤L→Live L' r.expr)→Live L (qO F r n e)
 | 0,L,_,hn,_=>by omega
 | n+1,L,e,hn,hs=>Live.o7 (iH F L 3 _) (iG F 3 _) (fun _=>Live.ite
   (Live.seq (fu F L 3 _) (bF F 3 _) (fun hL _=>Live.seq (hs _ (by omega)) h.expr (fun hL' _=>Live.seq (fu F _ 3 _) (bF F 3 _) (fun hL2 _=>yG n _ _ (by omega) (fun L' hl=>hs L' (by omega)))))) (Live.pure _ _))
theorem Aw:∀n L ks,L<n→(∀L',L'≤L→Live L' r.expr)→Live L (vG F r n ks)
 | 0,L,_,hn,_=>by omega
 | n+1,L,ks,hn,hs=>Live.seq (hs L (Nat.le_refl _)) h.expr (fun hL _=>Live.o7 (gV F _ 3 _) (eF F 3 _) (fun _=>Live.ite
   (Aw n _ _ (by omega) (fun L' hl=>hs L' (by omega))) (Live.seq (fu F _ 3 _) (bF F 3 _) (fun _ _=>Live.pure _ _))))
variable {n:Nat} (H:LH r n)
include H
theorem qx (L:Nat) (t:Tree):Live L (mO F t):=Live.seq (fu F L 3 _) (bF F 3 _) (fun _ _=>Live.pure _ _)
theorem GX (L:Nat) (hn:L*32+13+1≤n+1):Live L (mX F r) :=
 Live.seq (H.expr L (by omega)) h.expr (fun hL e=>Live.ite (Live.o7 (gV F _ 3 _) (eF F 3 _) (fun _=>Live.ite
  (Live.seq (H.expr _ (by omega)) h.expr (fun _ v=>Live.ite (qx h H _ _) (qx h H _ _))) (qx h H _ _))) (qx h H _ _))
theorem y9 (L:Nat) (hn:L*32+14+1≤n+1):Live L (iP F r):=by
 refine Live.Au (fun t hL=>?_);have hp:Live L (mX F r):=GX h H L (by omega);have he:=fun L t=>qx (F:=F) h H L t
 refine Live.o7 (Live.ite (Live.o7 (JM F L) (DT F) (fun _=>Live.pure _ _)) (Live.pure _ _)) ?_ (fun c=>?_)
 ·exact aR.ite (aR.mono (aR.bind (DT F) (fun _=>aR.pure _)) (by omega)) (aR.pure _)
 refine Live.ite ?_ (Live.ite (Live.ite ?_ (Live.ite (H.choice L (by omega)) (Live.ite (H.loop L _ (by omega)) (Live.ite ?_ (Live.ite ?_ (Live.ite ?_ hp)))))) hp)
 ·exact Live.oU (fun _=>Live.oU (fun _=>Live.o7 (iH F _ 2 _) (iG F 2 _) (fun _=>Live.ite (H.loop _ _ (by omega)) (kG F _))))
 ·exact Live.oU (fun _=>Live.seq (jJ F _ 1) (eG F 1) (fun _ _=>Live.seq (fu F _ 3 _) (bF F 3 _) (fun _ _=>Live.seq (H.expr _ (by omega)) h.expr (fun _ _=>he _ _))))
 ·exact Live.oU (fun _=>Live.o7 (nX F _) (mR F) (fun _=>Live.ite (Live.seq (jJ F _ 1) (eG F 1) (fun _ _=>he _ _)) (he _ _)))
 ·exact Live.oU (fun _=>Live.o7 (iH F _ 3 _) (iG F 3 _) (fun _=>Live.ite (he _ _) (Live.seq (H.expr _ (by omega)) h.expr (fun _ _=>he _ _))))
 ·exact Live.oU (fun _=>Live.seq (H.expr _ (by omega)) h.expr (fun _ _=>he _ _))
theorem CX (L:Nat) (hn:L*32+1+1≤n+1):Live L (jS F r n):=by
 refine Live.Au (fun t hL=>?_);refine Live.ite (Live.oU (fun _=>Live.pure _ _)) (Live.ite (Live.oU (fun _=>Live.pure _ _)) (Live.ite (Live.oU (fun _=>Live.pure _ _)) (Live.ite ?_ (Live.ite ?_ (Live.ite ?_ (kG F _))))))
 ·split
  ·exact Live.oU (fun _=>Live.pure _ _)
  ·exact kG F _
 ·exact Live.oU (fun _=>Live.o7 (gV F _ 3 _) (eF F 3 _) (fun _=>Live.ite (Live.o7 (gV F _ 3 _) (eF F 3 _) (fun _=>Live.ite (Live.pure _ _)
   (Live.seq (Aw h n _ _ (by omega) (fun L' hl=>H.expr L' (by omega))) (xC h n []) (fun _ _=>Live.pure _ _)))) (Live.pure _ _)))
 ·intro ts hl;rw[bind_eq];unfold P.bind;split
  ·rename_i he;exact absurd he (gV F L 3 _ ts hl)
  ·simp
  ·rename_i b t1 he;cases b with
   | true =>
    obtain⟨p,rfl⟩:=nY F he
    have hl':t1.length≤L-1:=by simp at hl;omega
    simp only[if_true];exact(Live.seq (H.expr (L-1) (by omega)) h.expr (fun _ e=>Live.seq (fu F _ 3 [41]) (bF F 3 [41]) (fun _ _=>Live.pure _ e))) t1 hl'
   | false=>simpa using kG F (α:=Tree) t1.length t1 (Nat.le_refl _)
theorem MW:LH (step F r n) (n+1) where
 block L hn:=Live.seq (fu F L 3 _) (bF F 3 _) (fun hL _=>Live.seq (yE h n _ _ (by omega) (H.statement _ (by omega))) (uR h n []) (fun _ _=>Live.pure _ _))
 statement L hn:=y9 h H L hn
 choice L hn:=Live.seq (fu F L 2 _) (bF F 2 _) (fun hL _=>Live.seq (H.expr _ (by omega)) h.expr (fun _ _=>Live.seq (H.block _ (by omega)) h.block (fun _ _ =>
  Live.o7 (gV F _ 2 _) (eF F 2 _) (fun _=>Live.ite (Live.o7 (iH F _ 2 _) (iG F 2 _) (fun _=>Live.ite (Live.seq (H.choice _ (by omega)) h.choice (fun _ _=>Live.pure _ _)) (Live.seq (H.block _ (by omega)) h.block (fun _ _=>Live.pure _ _)))) (Live.pure _ _)))))
 loop L l hn:=Live.seq (jJ F L 2) (eG F 2) (fun hL _=>Live.ite (Live.seq (H.expr _ (by omega)) h.expr (fun _ _=>Live.seq (H.block _ (by omega)) h.block (fun _ _=>Live.pure _ _)))
  (Live.seq (jJ F _ 1) (eG F 1) (fun _ _=>Live.seq (fu F _ 2 _) (bF F 2 _) (fun _ _=>Live.seq (H.expr _ (by omega)) h.expr (fun _ _=>Live.seq (fu F _ 3 _) (bF F 3 _) (fun _ _=>Live.seq (H.expr _ (by omega)) h.expr (fun _ _=>Live.seq (H.block _ (by omega)) h.block (fun _ _=>Live.pure _ _))))))))
 expr L hn:=Live.seq (H.and' L (by omega)) h.and' (fun hL _=>Av h n _ _ (by omega) (fun L' hl=>H.and' L' (by omega)))
 and' L hn:=Live.seq (H.not' L (by omega)) h.not' (fun hL _=>DV h n _ _ (by omega) (fun L' hl=>H.not' L' (by omega)))
 not' L hn:=by
  refine Live.o7 (iH F L 2 _) (iG F 2 _) (fun _=>Live.ite ?_ ?_)
  ·exact Live.seq (fu F L 2 _) (bF F 2 _) (fun hL _=>Live.seq (H.not' _ (by omega)) h.not' (fun _ _=>Live.pure _ _))
  ·exact Live.seq (H.level L 0 (by omega)) (h.level 0) (fun hL e=>Live.o7 (iH F _ 3 _) (iG F 3 _) (fun _=>Live.ite (DW h _ e 0 (fun L' hl=>H.level L' 0 (by omega))) (Live.pure _ _)))
 level L k hn:=by
  show Live L (lN F r n k);unfold lN;split
  ·exact H.unary L (by omega)
  ·rename_i l hk
   have hk6:k<6:=by
    have:=(List.getElem?_eq_some_iff.1 hk).1
    simpa[levels]using this
   exact Live.seq (H.level L (k+1) (by omega)) (h.level (k+1)) (fun hL _=>yF h k l n _ _ (by omega) (fun L' hl=>H.level L' (k+1) (by omega)))
 unary L hn:=by
  refine Live.o7 (iH F L 3 _) (iG F 3 _) (fun _=>Live.ite ?_ ?_)
  ·exact Live.seq (jJ F L 3) (eG F 3) (fun hL _=>Live.seq (H.unary _ (by omega)) h.unary (fun _ _=>Live.pure _ _))
  ·exact Live.seq (H.primary L (by omega)) h.primary (fun hL e=>yG h n _ _ (by omega) (fun L' hl=>H.expr L' (by omega)))
 primary L hn:=CX h H L hn
end
theorem DX (F:dS):∀n,LH (recs F n) n
 | 0=>⟨fun _ h=>by omega,fun _ h=>by omega,fun _ h=>by omega,fun _ _ h=>by omega,fun _ h=>by omega,fun _ h=>by omega,fun _ h=>by omega,fun _ _ h=>by omega,fun _ h=>by omega,fun _ h=>by omega⟩
 | n+1=>MW (qp F n) (DX F n)
section
variable (F:dS)
theorem yH:∀n ks,aR 1 (nJ F n ks)
 | 0,_=>aR.out 1
 | n+1,ks=>aR.mono (j:=1+0) (aR.bind (eG F 1) (fun _=>aR.lg ((yH n _).mono (by omega)) (aR.mono (aR.bind (bF F 3 [41]) (fun _=>aR.pure _)) (by omega)))) (by omega)
theorem vT:∀n L ks,L<n→Live L (nJ F n ks)
 | 0,L,_,hn=>by omega
 | n+1,L,ks,hn=>Live.seq (jJ F L 1) (eG F 1) (fun hL _=>Live.o7 (gV F _ 3 _) (eF F 3 _) (fun _=>Live.ite
   (vT n _ _ (by omega)) (Live.seq (fu F _ 3 _) (bF F 3 _) (fun _ _=>Live.pure _ _))))
variable {F} {r:Rec} {m:Nat} (h:MS r) (H:LH r m)
include h
theorem yI (n:Nat):aR 0 (do if ←skip F 3 [41]then pure []else nJ F n []:P (List Tree)):=aR.lg (aR.pure _) ((yH F n _).mono (by omega))
theorem pX (n:Nat):aR 1 (iD F r n) :=
 aR.mono (aR.bind (eG F 1) (fun _=>aR.bind (bF F 3 [40]) (fun _=>aR.bind (yI h n) (fun _=>aR.bind h.block (fun _=>aR.pure _))))) (by omega)
include H
theorem Ay (n L:Nat) (hn:L≤n) (hm:L*32≤m):Live L (iD F r n) :=
 Live.seq (jJ F L 1) (eG F 1) (fun hL _=>Live.seq (fu F _ 3 _) (bF F 3 _) (fun hL2 _ =>
  Live.o7 (Live.o7 (gV F _ 3 _) (eF F 3 _) (fun _=>Live.ite (Live.pure _ _) (vT F _ _ _ (by omega)))) (yI h n) (fun _ =>
   Live.seq (H.block _ (by omega)) h.block (fun _ _=>Live.pure _ _))))
theorem pY (q:Nat):∀n L ks,L<n→L≤q→L*32≤m→Live L (jT F r q n ks)
 | 0,L,_,hn,_,_=>by omega
 | n+1,L,ks,hn,hq,hm=>by
  refine Live.Au (fun t hL=>Live.ite (Live.pure _ _) ?_);intro ts hl;rw[bind_eq];unfold P.bind;split
  ·rename_i he;exact absurd he (gV F L 2 _ ts hl)
  ·simp
  ·rename_i b t1 he;have hc:=eF F 2 _ _ _ _ he;cases b with
   | true =>
    obtain⟨p,rfl⟩:=nY F he
    have hl':t1.length≤L-1:=by simp at hl;omega
    simp only[if_true];exact(Live.seq (jJ F (L-1) 1) (eG F 1) (fun hL t=>Live.seq (fu F _ 3 [59]) (bF F 3 [59]) (fun hL2 _=>pY q n _ (ks++[leaf 2 t.at' t.text []]) (by omega) (by omega) (by omega)))) t1 hl'
   | false =>
    simp only[Bool.false_eq_true,if_false];rw[bind_eq];unfold P.bind;split
    ·rename_i he2;exact absurd he2 (gV F L 2 _ t1 (by omega))
    ·simp
    ·rename_i b t2 he2;cases b with
     | true =>
      obtain⟨p,rfl⟩:=nY F he2
      have hl':t2.length≤L-1:=by simp at hc;omega
      simp only[if_true];exact(Live.seq (Ay h H q (L-1) (by omega) (by omega)) (pX h q) (fun hL f=>pY q n _ (ks++[f]) (by omega) (by omega) (by omega))) t2 hl'
     | false=>simpa using kG F (α:=List Tree) t2.length t2 (Nat.le_refl _)
end
theorem qX {F:dS} {r:Rec} (h:MS r) (q:Nat):∀n ks,aR 0 (jT F r q n ks)
 | 0,_=>aR.out 0
 | n+1,ks=>aR.pK (fun _=>iZ.ite (aR.pure _).n (aR.n (aR.lg
   (aR.mono (aR.bind (eG F 1) (fun _=>aR.bind (bF F 3 [59]) (fun _=>qX h q n _))) (by omega))
   (aR.lg (aR.mono (aR.bind (pX h q) (fun _=>qX h q n _)) (by omega)) (lW F 0)))))
theorem CY (F:dS) (ts:TS) (n:Nat) (hn:ts.length*32+1≤n):fU F n ts≠none :=
 (Live.seq (k:=0) (pY (qp F n) (DX F n) n n ts.length [] (by omega) (by omega) (by omega))
  (qX (qp F n) n n []) (fun _ _=>Live.pure _ _)) ts (Nat.le_refl _)
theorem GY:∀(k f n:Nat) (acc:Bytes),n<10 ^ (k+1)→(Gj f n acc).length≤acc.length+(k+1)
 | k,0,n,acc,_=>by simp[Gj]
 | 0,f+1,n,acc,h=>by
  unfold Gj;rw[if_pos (by simpa using h)];simp
 | k+1,f+1,n,acc,h=>by
  unfold Gj;split
  ·simp
  ·have:=GY k f (n/10) (UInt8.ofNat (48+n%10)::acc) (by rw[Nat.div_lt_iff_lt_mul (by decide)];rw[Nat.pow_succ]at h;exact h)
   simp at this ⊢;omega
theorem vU (i:Int) (h:i.natAbs<10 ^ 20):(EF i).length≤21:=by
 have:=GY 19 (i.natAbs+1) i.natAbs [] h
 unfold EF dec
 split<;>simp at this ⊢ <;> omega
theorem DY:∀f m,(rH f m).length≤f
 | 0,_=>by simp[rH]
 | f+1,m=>by
  unfold rH;split
  ·simp
  ·have:=DY f (m*16%2 ^ 52);simp;omega
theorem uf (f:Nat) (e:Int) (h:e.natAbs<10 ^ 20):(iE f e).length≤60:=by
 have:=vU e h
 have:=DY 14 f
 unfold iE;simp only[List.length_append];have h1:(if (f==0)=true then([]:Bytes) else[46]).length≤1:=by split<;>simp
 have h2:(if 0≤e then([43]:Bytes) else[]).length≤1:=by split<;>simp
 simp only[List.length_cons,List.length_nil];omega
theorem JU (b:Nat):(iQ b).length≤61:=by
 unfold iQ;simp only;have h0:(if (b/2 ^ 63==1)=true then([45]:Bytes) else[]).length≤1:=by split<;>simp
 generalize (if (b/2 ^ 63==1)=true then([45]:Bytes) else[])=sg at h0;have hE:b/2 ^ 52%2048<2048:=Nat.mod_lt _ (by decide);generalize b/2 ^ 52%2048=E at hE;generalize b%2 ^ 52=f;split
 ·simp
 split
 ·simp;omega
 split
 ·simp;omega
 split
 ·have:=uf (f*2 ^ (52-f.log2)%2 ^ 52) (1-((52-f.log2:Nat):Int)-1023) (by rw[show(10:Nat) ^ 20=100000000000000000000 by decide];omega)
  simp only[List.length_append];omega
 ·have:=uf f ((E:Int)-1023) (by rw[show(10:Nat) ^ 20=100000000000000000000 by decide];omega)
  simp only[List.length_append];omega
end Ck
end
