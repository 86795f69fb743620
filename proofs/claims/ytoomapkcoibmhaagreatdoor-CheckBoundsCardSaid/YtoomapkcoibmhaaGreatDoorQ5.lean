/- A part of the proof. -/
import Derived.KernelRfl
import Derived.Test.YtoomapkcoibmhaaGreatDoorQ4
set_option maxRecDepth 100000
set_option maxHeartbeats 12800000
set_option linter.all false
section
namespace Ck
def Pass {α:Type} (m:Pr α) (pre:List Node):Prop:=∀rest toks,m (pre++rest,toks)=none∨∃a rJ,m (pre++rest,toks)=some (some (a,(rest,rJ)))
def Runs {α:Type} (m:Pr α) (pre:List Node) (a:α):Prop:=∀rest toks,m (pre++rest,toks)=some (some (a,(rest,toks)))
section
variable {α β:Type}
theorem Pass.bind {x:Pr α} {f:α→Pr β} {p q:List Node} (hx:Pass x p) (hf:∀a,Pass (f a) q):Pass (x >>= f) (p++q):=by
 intro rest toks;rw[Pr.bind_eq,List.append_assoc];unfold Pr.bind;rcases hx (q++rest) toks with h|⟨a,rJ,h⟩<;>rw[h]
 ·exact .inl rfl
 ·exact hf a rest rJ
theorem Runs.bind {x:Pr α} {f:α→Pr β} {p q:List Node} {a:α} (hx:Runs x p a) (hf:Pass (f a) q):Pass (x >>= f) (p++q):=by
 intro rest toks;rw[Pr.bind_eq,List.append_assoc];unfold Pr.bind;rw[hx (q++rest) toks];exact hf rest toks
theorem qH (a:α):Pass (pure a:Pr α) []:=fun rest toks=>.inr ⟨a,toks,rfl⟩
theorem fG {b:Bool} {f:Unit→Pr β} {q:List Node} (h:b=true) (hf:Pass (f ()) q):Pass (fit b >>= f) q:=by
 have:Runs (fit b) [] ():=fun rest toks=>by subst h;rfl
 exact this.bind hf
theorem dX (l:List Bytes):Pass (put l) []:=fun rest toks=>by
 unfold put;split
 ·exact .inr ⟨(),_,rfl⟩
 ·exact .inl rfl
theorem bL {l:List Bytes} {f:Unit→Pr β} {q:List Node} (hf:Pass (f ()) q):Pass (put l >>= f) q:=(dX l).bind (fun _=>hf)
theorem jM {f:Int→Pr β} {n:Node} {q:List Node} (hf:Pass (f n.kind) (n::q)):Pass (mP >>= f) (n::q):=fun rest toks=>by
 rw[Pr.bind_eq];exact hf rest toks
theorem yh (n:Node) (t u v:Bool) (hk:0≤n.kids) (ht:t=true∨n.text=[]) (hu:u=true∨n.int=0) (hv:v=true∨n.bits=0):Runs (jw t u v) [n] n:=fun rest toks=>by
 unfold jw;show(if _ then _ else _)=_
 rw[if_pos]
 ·rfl
 ·simp only[Bool.and_eq_true,Bool.or_eq_true,decide_eq_true_eq,beq_iff_eq];exact⟨⟨⟨hk,ht⟩,hu⟩,hv⟩
theorem eO {t u v:Bool} {f:Node→Pr β} {n:Node} {q:List Node} (hk:0≤n.kids) (ht:t=true∨n.text=[]) (hu:u=true∨n.int=0) (hv:v=true∨n.bits=0) (hf:Pass (f n) q):Pass (jw t u v >>= f) (n::q) :=
 (yh n t u v hk ht hu hv).bind (p:=[n]) hf
theorem Ey {s:Bytes} (h:iF s=true):Runs (nameP s) [] s:=fun rest toks=>by
 unfold nameP;rw[Pr.bind_eq];unfold Pr.bind fit;rw[h];rfl
theorem nZ {s:Bytes} {f:Bytes→Pr β} {q:List Node} (h:iF s=true) (hf:Pass (f s) q):Pass (nameP s >>= f) q:=(Ey h).bind hf
theorem K9 (n:Node) (kind kids:Int) (h1:n.kind=kind) (h2:n.kids=kids) (h0:0≤kids) (hn:dI n):Runs (jo kind kids) [n] n.text:=fun rest toks=>by
 have hr:=yh n true false false (by omega) (.inl rfl) (.inr hn.2.1) (.inr hn.2.2) rest toks;have e1:mP ([n]++rest,toks)=some (some (n.kind,([n]++rest,toks))):=rfl;have e2:∀s:List Node × List Bytes,fit true s=some (some ((),s)):=fun s=>rfl
 unfold jo;simp only[Pr.bind_eq,Pr.bind,e1,h1,h2,beq_self_eq_true,e2,hr];exact Ey hn.1 rest toks
theorem kL {f:Bytes→Pr β} {n:Node} {q:List Node} (kind kids:Int) (h1:n.kind=kind) (h2:n.kids=kids) (h0:0≤kids) (hn:dI n) (hf:Pass (f n.text) q):Pass (jo kind kids >>= f) (n::q) :=
 (K9 n kind kids h1 h2 h0 hn).bind (p:=[n]) hf
theorem NR (n:Node) (kind kids:Int) (h1:n.kind=kind) (h2:n.kids=kids) (h0:0≤kids) (hn:dK n):Runs (oh kind kids) [n] ():=fun rest toks=>by
 have hr:=yh n false false false (by omega) (.inr hn.1) (.inr hn.2.1) (.inr hn.2.2) rest toks;have e1:mP ([n]++rest,toks)=some (some (n.kind,([n]++rest,toks))):=rfl;have e2:∀s:List Node × List Bytes,fit true s=some (some ((),s)):=fun s=>rfl
 unfold oh;simp only[Pr.bind_eq,Pr.bind,e1,h1,h2,beq_self_eq_true,e2,hr]
theorem jm {f:Unit→Pr β} {n:Node} {q:List Node} (kind kids:Int) (h1:n.kind=kind) (h2:n.kids=kids) (h0:0≤kids) (hn:dK n) (hf:Pass (f ()) q):Pass (oh kind kids >>= f) (n::q) :=
 (NR n kind kids h1 h2 h0 hn).bind (p:=[n]) hf
end
structure Mi (r:gG):Prop where
 block:∀t,TB t→Pass r.block t.row
 statement:∀t,NI t→Pass r.statement t.row
 choice:∀t,T9 t→Pass r.choice t.row
 loop:∀t:Tree,t.all Gm→(t.n.kind=10∨t.n.kind=11)→Pass r.loop t.row
 expr:∀t,TE t→Pass r.expr t.row
theorem oM (e:Tree):rows [e]=e.row:=by simp[rows]
theorem qI (e f:Tree):rows [e,f]=e.row++f.row:=by simp[rows]
theorem vD (e f g:Tree):rows [e,f,g]=e.row++(f.row++g.row):=by simp[rows]
theorem NS (e f g k:Tree):rows [e,f,g,k]=e.row++(f.row++(g.row++k.row)):=by simp[rows]
section
variable {r:gG} (h:Mi r)
include h
theorem IY {x:Pr Unit} {l:List Tree} (hx:∀t∈l,Pass x t.row):Pass (uJ x l.length) (rows l):=by
 induction l with
 | nil=>exact qH ()
 | cons t l ih=>exact(hx t (by simp)).bind fun _=>ih (fun u hu=>hx u (by simp[hu]))
theorem pe {t:Tree} {f:Unit→Pr Unit} {q:List Node} (ht:TE t) (hf:Pass (f ()) q):Pass (r.expr >>= f) (t.row++q):=(h.expr t ht).bind fun _=>hf
theorem oN {t:Tree} {l:List Bytes} (ht:TE t):Pass (r.expr >>= fun _=>put l) t.row:=by
 have:=pe (q:=[]) h ht (f:=fun _=>put l) (dX _)
 simpa using this
theorem aad {n:Node} {ks:List Tree} (ha:(Tree.mk n ks).all Gm) {e:Tree} (he:e∈ks):e.all Gm:=dN ha.2 e he
theorem QX (t:Tree) (ht:TB t):Pass (uK r) t.row:=by
 obtain⟨n,ks⟩:=t
 obtain⟨ha,hk⟩:=ht
 replace hk:n.kind=5:=hk;have hg:=ha.1.2;simp only[dR,hk]at hg;have hg:dK n∧∀t∈ks,Xj t:=hg;unfold uK;refine jM (fG (by simp[hk]) (bL (eO (by simp) (.inr hg.1.1) (.inr hg.1.2.1) (.inr hg.1.2.2) ?_)))
 have:Pass (uJ r.statement ks.length) (rows ks):=IY h fun u hu=>h.statement u ⟨aad h ha hu,hg.2 u hu⟩
 simpa using this.bind (q:=[]) (f:=fun _=>put [[125]]) fun _=>dX _
theorem Ld {e f:Tree} {q:List Node} {g:Unit→Pr Unit} (he:TE e) (hf:TE f) (hg:Pass (g ()) q):Pass (jU r >>= g) (e.row++(f.row++q)):=by
 have:Pass (jU r) (e.row++f.row):=by
  unfold jU;exact pe h he (bL (oN h hf))
 rw[←List.append_assoc];exact this.bind fun _=>hg
theorem F6 {e f:Tree} {w:Bytes} (he:TE e) (hf:TE f):Pass (yu r w) (e.row++f.row):=by
 unfold yu;exact bL (pe h he (bL (oN h hf)))
theorem NT (t:Tree) (ht:T9 t):Pass (pE r) t.row:=by
 obtain⟨n,ks⟩:=t
 obtain⟨ha,hk⟩:=ht
 replace hk:n.kind=9:=hk;have hg:=ha.1.2;simp only[dR,hk]at hg;have hg:dK n∧((∃e b,ks=[e,b]∧tO e∧Dn b)∨∃e b c,ks=[e,b,c]∧tO e∧Dn b∧(Dn c∨c.n.kind=9)):=hg;obtain⟨hn,⟨e,b,rfl,h1,h2⟩|⟨e,b,c,rfl,h1,h2,h3⟩⟩:=hg
 ·unfold pE Tree.row;refine eO (by simp) (.inr hn.1) (.inr hn.2.1) (.inr hn.2.2) (fG (by simp) (bL ?_));rw[qI];refine pe h ⟨aad h ha (by simp),h1⟩ ?_
  have:=(h.block b ⟨aad h ha (by simp),h2⟩).bind (q:=[]) (f:=fun _=>(pure ():Pr Unit)) fun _=>qH ()
  simpa using this
 ·unfold pE Tree.row;refine eO (by simp) (.inr hn.1) (.inr hn.2.1) (.inr hn.2.2) (fG (by simp) (bL ?_));rw[vD];refine pe h ⟨aad h ha (by simp),h1⟩ ?_;refine(h.block b ⟨aad h ha (by simp),h2⟩).bind fun _=>?_
  rw[if_neg (by simp)];refine bL ?_;have hca:=aad h ha (e:=c) (by simp);obtain⟨cn,cs⟩:=c
  unfold Tree.row;refine jM ?_;show Pass (if (cn.kind==9)=true then r.choice else r.block) (Tree.mk cn cs).row;rcases h3 with h3|h3
  ·have h3':cn.kind=5:=h3;rw[if_neg (by simp[h3'])];exact h.block _ ⟨hca,h3⟩
  ·have h3':cn.kind=9:=h3;rw[if_pos (by simp[h3'])];exact h.choice _ ⟨hca,h3⟩
theorem SF (t:Tree) (ha:t.all Gm) (hk:t.n.kind=10∨t.n.kind=11):Pass (yt r) t.row:=by
 obtain⟨n,ks⟩:=t
 have hg:=ha.1.2;rcases hk with hk|hk
 ·replace hk:n.kind=10:=hk;simp only[dR,hk]at hg;have hg:(dI n∨dK n)∧∃e b,ks=[e,b]∧tO e∧Dn b:=hg;obtain⟨hn,e,b,rfl,h1,h2⟩:=hg
  have hp:n.int=0∧n.bits=0:=by rcases hn with hn|hn<;>exact hn.2
  unfold yt Tree.row;refine jM (eO (by simp) (.inl rfl) (.inr hp.1) (.inr hp.2) ?_)
  have fin:Pass (do put [[119,104,105,108,101]];r.expr;r.block) (rows [e,b]):=by
   rw[qI];exact bL (pe h ⟨aad h ha (by simp),h1⟩ (h.block b ⟨aad h ha (by simp),h2⟩))
  rw[if_pos (by simp[hk])];refine fG (by simp) ?_;by_cases hx:n.text=[]
  ·rw[if_neg (by simp[hx])];exact fin
  ·rw[if_pos (by simp[hx])];rcases hn with hn|hn
   ·exact nZ hn.1 (bL fin)
   ·exact absurd hn.1 hx
 ·replace hk:n.kind=11:=hk;simp only[dR,hk]at hg;have hg:dI n∧((∃e g b,ks=[e,g,b]∧tO e∧tO g∧Dn b)∨∃l e g b,ks=[l,e,g,b]∧l.n.kind=12∧tO e∧tO g∧Dn b):=hg;obtain⟨hn,hg⟩:=hg
  have fin:∀e g b:Tree,TE e→TE g→TB b→Pass (do let s ←nameP n.text;put [[102,111,114],s,[105,110]];r.expr;put [[46,46]];r.expr;r.block) (e.row++(g.row++b.row)):=fun e g b h1 h2 h3 =>
   nZ hn.1 (bL (pe h h1 (bL (pe h h2 (h.block b h3)))))
  unfold yt Tree.row;refine jM (eO (by simp) (.inl rfl) (.inr hn.2.1) (.inr hn.2.2) ?_);rw[if_neg (by simp[hk])];rcases hg with⟨e,g,b,rfl,h1,h2,h3⟩|⟨l,e,g,b,rfl,h0,h1,h2,h3⟩
  ·refine fG (by simp) ?_;rw[if_neg (by simp),vD];exact fin e g b ⟨aad h ha (by simp),h1⟩ ⟨aad h ha (by simp),h2⟩ ⟨aad h ha (by simp),h3⟩
  ·refine fG (by simp) ?_;rw[if_pos (by simp),NS];have hla:=aad h ha (e:=l) (by simp);obtain⟨ln,ls⟩:=l
   have h0:ln.kind=12:=h0;have hlg:=hla.1.2;simp only[dR,h0]at hlg;have hlg:dI ln∧ls=[]:=hlg;obtain⟨hln,rfl⟩:=hlg
   have hrow:(Tree.mk ln []).row=[{ ln with kids:=((0:Nat):Int) }]:=by simp[Tree.row,rows]
   rw[hrow];exact kL 12 0 h0 rfl (by decide) hln (bL (fin e g b ⟨aad h ha (by simp),h1⟩ ⟨aad h ha (by simp),h2⟩ ⟨aad h ha (by simp),h3⟩))
theorem F7 (t:Tree) (ht:NI t):Pass (bf r) t.row:=by
 obtain⟨n,ks⟩:=t
 obtain⟨ha,hS⟩:=ht
 have hg:=ha.1.2;have hS:6≤n.kind∧n.kind≤17∧n.kind≠12:=hS;have hkk:n.kind=6∨n.kind=7∨n.kind=8∨n.kind=9∨n.kind=10∨n.kind=11∨n.kind=13∨n.kind=14∨n.kind=15∨n.kind=16∨n.kind=17:=by omega
 have one:pq ks→∃e,ks=[e]∧TE e:=fun⟨e,h1,h2⟩=>⟨e,h1,aad h ha (by rw[h1];simp),h2⟩
 have hrow:(Tree.mk n ks).row={ n with kids:=(ks.length:Int) }::rows ks:=by simp[Tree.row]
 unfold bf;rw[hrow];refine jM ?_;rcases hkk with hk|hk|hk|hk|hk|hk|hk|hk|hk|hk|hk
 ·simp only[dR,hk]at hg;have hg:dI n∧pq ks:=hg;obtain⟨e,rfl,he⟩:=one hg.2
  rw[if_pos (by simp[hk]),oM];exact kL 6 1 hk rfl (by decide) hg.1 (bL (oN h he))
 ·simp only[dR,hk]at hg;have hg:dI n∧pq ks:=hg;obtain⟨e,rfl,he⟩:=one hg.2
  rw[if_neg (by simp[hk]),if_pos (by simp[hk]),oM];exact kL 7 1 hk rfl (by decide) hg.1 (bL (oN h he))
 ·simp only[dR,hk]at hg;have hg:dK n∧∃e f g,ks=[e,f,g]∧tO e∧tO f∧tO g:=hg;obtain⟨hn,e,f,g,rfl,h1,h2,h3⟩:=hg
  rw[if_neg (by simp[hk]),if_neg (by simp[hk]),if_pos (by simp[hk]),vD];exact jm 8 3 hk rfl (by decide) hn (Ld h ⟨aad h ha (by simp),h1⟩ ⟨aad h ha (by simp),h2⟩ (bL (oN h ⟨aad h ha (by simp),h3⟩)))
 ·rw[if_neg (by simp[hk]),if_neg (by simp[hk]),if_neg (by simp[hk]),if_pos (by simp[hk]),←hrow];exact h.choice _ ⟨ha,hk⟩
 ·rw[if_neg (by simp[hk]),if_neg (by simp[hk]),if_neg (by simp[hk]),if_neg (by simp[hk]),if_pos (by simp[hk]),←hrow];exact h.loop _ ha (.inl hk)
 ·rw[if_neg (by simp[hk]),if_neg (by simp[hk]),if_neg (by simp[hk]),if_neg (by simp[hk]),if_pos (by simp[hk]),←hrow];exact h.loop _ ha (.inr hk)
 ·simp only[dR,hk]at hg;have hg:(dI n∨dK n)∧ks=[]:=hg;obtain⟨hn,rfl⟩:=hg
  have hp:n.int=0∧n.bits=0:=by rcases hn with hn|hn<;>exact hn.2
  rw[if_neg (by simp[hk]),if_neg (by simp[hk]),if_neg (by simp[hk]),if_neg (by simp[hk]),if_neg (by simp[hk]),if_pos (by simp[hk])];refine eO (by simp) (.inl rfl) (.inr hp.1) (.inr hp.2) (fG (by simp) (bL ?_));by_cases hx:n.text=[]
  ·rw[if_neg (by simp[hx])];exact dX _
  ·rw[if_pos (by simp[hx])];rcases hn with hn|hn
   ·exact nZ hn.1 (bL (dX _))
   ·exact absurd hn.1 hx
 ·simp only[dR,hk]at hg;have hg:(dI n∨dK n)∧ks=[]:=hg;obtain⟨hn,rfl⟩:=hg
  have hp:n.int=0∧n.bits=0:=by rcases hn with hn|hn<;>exact hn.2
  rw[if_neg (by simp[hk]),if_neg (by simp[hk]),if_neg (by simp[hk]),if_neg (by simp[hk]),if_neg (by simp[hk]),if_pos (by simp[hk])];refine eO (by simp) (.inl rfl) (.inr hp.1) (.inr hp.2) (fG (by simp) (bL ?_));by_cases hx:n.text=[]
  ·rw[if_neg (by simp[hx])];exact dX _
  ·rw[if_pos (by simp[hx])];rcases hn with hn|hn
   ·exact nZ hn.1 (bL (dX _))
   ·exact absurd hn.1 hx
 ·simp only[dR,hk]at hg;have hg:dK n∧(ks=[]∨pq ks):=hg;obtain⟨hn,hg⟩:=hg
  rw[if_neg (by simp[hk]),if_neg (by simp[hk]),if_neg (by simp[hk]),if_neg (by simp[hk]),if_neg (by simp[hk]),if_neg (by simp[hk]),if_pos (by simp[hk])];rcases hg with rfl|hg
  ·refine eO (by simp) (.inr hn.1) (.inr hn.2.1) (.inr hn.2.2) (fG (by simp) (bL ?_));rw[if_neg (by simp)];exact dX _
  ·obtain⟨e,rfl,he⟩:=one hg
   refine eO (by simp) (.inr hn.1) (.inr hn.2.1) (.inr hn.2.2) (fG (by simp) (bL ?_));rw[if_pos (by simp),oM];exact oN h he
 ·simp only[dR,hk]at hg;have hg:dK n∧pq ks:=hg;obtain⟨e,rfl,he⟩:=one hg.2
  rw[if_neg (by simp[hk]),if_neg (by simp[hk]),if_neg (by simp[hk]),if_neg (by simp[hk]),if_neg (by simp[hk]),if_neg (by simp[hk]),if_neg (by simp[hk]),if_pos (by simp[hk]),oM];exact jm 16 1 hk rfl (by decide) hg.1 (bL (oN h he))
 ·simp only[dR,hk]at hg;have hg:dK n∧pq ks:=hg;obtain⟨e,rfl,he⟩:=one hg.2
  rw[if_neg (by simp[hk]),if_neg (by simp[hk]),if_neg (by simp[hk]),if_neg (by simp[hk]),if_neg (by simp[hk]),if_neg (by simp[hk]),if_neg (by simp[hk]),if_neg (by simp[hk]),oM];exact jm 17 1 hk rfl (by decide) hg.1 (oN h he)
theorem Mj:∀l:List Tree,(∀t∈l,TE t)→Pass (tQ r l.length) (rows l)
 | [],_=>qH ()
 | t::l,hl=>bL (pe h (hl t (by simp)) (Mj l fun u hu=>hl u (by simp[hu])))
theorem SG (t:Tree) (ht:TE t):Pass (fQ r) t.row:=by
 obtain⟨n,ks⟩:=t
 obtain⟨ha,hS⟩:=ht
 have hg:=ha.1.2;have hS:18≤n.kind∧n.kind≤31:=hS;have hkk:n.kind=18∨n.kind=19∨n.kind=20∨n.kind=21∨n.kind=22∨n.kind=23∨n.kind=24∨n.kind=25∨n.kind=26∨n.kind=27∨n.kind=28∨n.kind=29∨n.kind=30∨n.kind=31:=by omega
 have one:pq ks→∃e,ks=[e]∧TE e:=fun⟨e,h1,h2⟩=>⟨e,h1,aad h ha (by rw[h1];simp),h2⟩
 have two:BU ks→∃e f,ks=[e,f]∧TE e∧TE f:=fun⟨e,f,h1,h2,h3⟩=>⟨e,f,h1,⟨aad h ha (by rw[h1];simp),h2⟩,aad h ha (by rw[h1];simp),h3⟩
 have hrow:(Tree.mk n ks).row={ n with kids:=(ks.length:Int) }::rows ks:=by simp[Tree.row]
 unfold fQ;rw[hrow];refine jM ?_;simp only[];rcases hkk with hk|hk|hk|hk|hk|hk|hk|hk|hk|hk|hk|hk|hk|hk
 all_goals simp only[dR,hk]at hg
 ·have hg:dK n∧BU ks:=hg;obtain⟨e,f,rfl,he,hf⟩:=two hg.2
  rw[if_pos (by simp[hk]),qI,hk];exact jm 18 2 rfl rfl (by decide) hg.1 (F6 h he hf)
 ·have hg:dK n∧BU ks:=hg;obtain⟨e,f,rfl,he,hf⟩:=two hg.2
  rw[if_pos (by simp[hk]),qI,hk];exact jm 19 2 rfl rfl (by decide) hg.1 (F6 h he hf)
 ·have hg:dK n∧pq ks:=hg;obtain⟨e,rfl,he⟩:=one hg.2
  rw[if_neg (by simp[hk]),if_pos (by simp[hk]),oM,hk];exact jm 20 1 rfl rfl (by decide) hg.1 (bL (oN h he))
 ·have hg:rD n∧binaries.contains n.text=true∧BU ks:=hg;obtain⟨e,f,rfl,he,hf⟩:=two hg.2.2
  rw[if_neg (by simp[hk]),if_neg (by simp[hk]),if_pos (by simp[hk]),qI];exact eO (by simp) (.inl rfl) (.inr hg.1.1) (.inr hg.1.2) (fG (by rw[Bool.and_eq_true];exact⟨rfl,hg.2.1⟩) (F6 h he hf))
 ·have hg:rD n∧(n.text=[45]∨n.text=[126])∧pq ks:=hg;obtain⟨e,rfl,he⟩:=one hg.2.2
  rw[if_neg (by simp[hk]),if_neg (by simp[hk]),if_neg (by simp[hk]),if_pos (by simp[hk]),oM];exact eO (by simp) (.inl rfl) (.inr hg.1.1) (.inr hg.1.2) (fG (by simp[hg.2.1]) (bL (oN h he)))
 ·have hg:dI n∧∀t∈ks,tO t:=hg;rw[if_neg (by simp[hk]),if_neg (by simp[hk]),if_neg (by simp[hk]),if_neg (by simp[hk]),if_pos (by simp[hk])];refine eO (by simp) (.inl rfl) (.inr hg.1.2.1) (.inr hg.1.2.2) (nZ hg.1.1 (bL ?_));cases ks with
  | nil=>exact dX _
  | cons e l =>
   have hl:=Mj h l (fun u hu=>⟨aad h ha (by simp[hu]),hg.2 u (by simp[hu])⟩);have he:TE e:=⟨aad h ha (by simp),hg.2 e (by simp)⟩
   have hp:Pass (do r.expr;tQ r l.length) (rows (e::l)):=pe h he hl;simpa using hp.bind (q:=[]) (f:=fun _=>put [[41]]) fun _=>dX _
 ·have hg:dK n∧BU ks:=hg;obtain⟨e,f,rfl,he,hf⟩:=two hg.2
  rw[if_neg (by simp[hk]),if_neg (by simp[hk]),if_neg (by simp[hk]),if_neg (by simp[hk]),if_neg (by simp[hk]),if_pos (by simp[hk]),qI,hk];refine jm 24 2 rfl rfl (by decide) hg.1 ?_;unfold jU;exact pe h he (bL (oN h hf))
 ·have hg:dI n∧ks=[]:=hg;obtain⟨hn,rfl⟩:=hg
  rw[if_neg (by simp[hk]),if_neg (by simp[hk]),if_neg (by simp[hk]),if_neg (by simp[hk]),if_neg (by simp[hk]),if_neg (by simp[hk]),if_pos (by simp[hk]),hk];exact kL 25 0 rfl rfl (by decide) hn (dX _)
 ·have hg:n.text=[]∧n.bits=0∧0≤n.int∧n.int≤9223372036854775807∧ks=[]:=hg;obtain⟨h1,h2,h3,h4,rfl⟩:=hg
  rw[if_neg (by simp[hk]),if_neg (by simp[hk]),if_neg (by simp[hk]),if_neg (by simp[hk]),if_neg (by simp[hk]),if_neg (by simp[hk]),if_neg (by simp[hk]),if_pos (by simp[hk])];exact eO (by simp) (.inr h1) (.inl rfl) (.inr h2) (fG (by simp[h3]) (dX _))
 ·have hg:n.text=[]∧n.int=0∧((0≤n.bits∧n.bits≤oQ)∨n.bits=wT)∧ks=[]:=hg;obtain⟨h1,h2,h3,rfl⟩:=hg
  rw[if_neg (by simp[hk]),if_neg (by simp[hk]),if_neg (by simp[hk]),if_neg (by simp[hk]),if_neg (by simp[hk]),if_neg (by simp[hk]),if_neg (by simp[hk]),if_neg (by simp[hk]),if_pos (by simp[hk])];exact eO (by simp) (.inr h1) (.inr h2) (.inl rfl) (fG (by rcases h3 with h3|h3<;>simp[h3]) (dX _))
 ·have hg:rD n∧ks=[]:=hg;obtain⟨hn,rfl⟩:=hg
  rw[if_neg (by simp[hk]),if_neg (by simp[hk]),if_neg (by simp[hk]),if_neg (by simp[hk]),if_neg (by simp[hk]),if_neg (by simp[hk]),if_neg (by simp[hk]),if_neg (by simp[hk]),if_neg (by simp[hk]),if_pos (by simp[hk])];exact eO (by simp) (.inl rfl) (.inr hn.1) (.inr hn.2) (fG (by simp) (dX _))
 ·have hg:dK n∧ks=[]:=hg;obtain⟨hn,rfl⟩:=hg
  rw[if_neg (by simp[hk]),if_neg (by simp[hk]),if_neg (by simp[hk]),if_neg (by simp[hk]),if_neg (by simp[hk]),if_neg (by simp[hk]),if_neg (by simp[hk]),if_neg (by simp[hk]),if_neg (by simp[hk]),if_neg (by simp[hk]),if_pos (by simp[hk]),hk];exact jm 29 0 rfl rfl (by decide) hn (dX _)
 ·have hg:dK n∧ks=[]:=hg;obtain⟨hn,rfl⟩:=hg
  rw[if_neg (by simp[hk]),if_neg (by simp[hk]),if_neg (by simp[hk]),if_neg (by simp[hk]),if_neg (by simp[hk]),if_neg (by simp[hk]),if_neg (by simp[hk]),if_neg (by simp[hk]),if_neg (by simp[hk]),if_neg (by simp[hk]),if_neg (by simp[hk]),if_pos (by simp[hk]),hk];exact jm 30 0 rfl rfl (by decide) hn (dX _)
 ·have hg:dK n∧ks=[]:=hg;obtain⟨hn,rfl⟩:=hg
  rw[if_neg (by simp[hk]),if_neg (by simp[hk]),if_neg (by simp[hk]),if_neg (by simp[hk]),if_neg (by simp[hk]),if_neg (by simp[hk]),if_neg (by simp[hk]),if_neg (by simp[hk]),if_neg (by simp[hk]),if_neg (by simp[hk]),if_neg (by simp[hk]),if_neg (by simp[hk])];exact jm 31 0 hk rfl (by decide) hn (dX _)
theorem SH:Mi (S9 r) where
 block:=QX h
 statement:=F7 h
 choice:=NT h
 loop:=SF h
 expr:=SG h
end
theorem zB:∀n,Mi (precs n)
 | 0=>⟨fun _ _ _ _=>.inl rfl,fun _ _ _ _=>.inl rfl,fun _ _ _ _=>.inl rfl,fun _ _ _ _ _=>.inl rfl,fun _ _ _ _=>.inl rfl⟩
 | n+1=>SH (zB n)
section
variable {r:gG} (h:Mi r)
theorem Ez {t:Tree} (ht:t.all Gm∧t.n.kind=4):∃n:Node,t.row=[{ n with kids:=((0:Nat):Int) }]∧n.kind=4∧dI n:=by
 obtain⟨n,ks⟩:=t
 obtain⟨ha,hk⟩:=ht
 replace hk:n.kind=4:=hk;have hg:=ha.1.2;simp only[dR,hk]at hg;have hg:dI n∧ks=[]:=hg;obtain⟨hn,rfl⟩:=hg
 exact⟨n,by simp[Tree.row,rows],hk,hn⟩
theorem EA:∀l:List Tree,(∀t∈l,t.all Gm∧t.n.kind=4)→Pass (mq l.length) (rows l)
 | [],_=>qH ()
 | t::l,hl=>by
  obtain⟨n,h1,h2,h3⟩:=Ez (hl t (by simp))
  have:rows (t::l)={ n with kids:=((0:Nat):Int) }::rows l:=by simp[rows,h1]
  rw[this];exact bL (kL 4 0 h2 rfl (by decide) h3 (bL (EA l fun u hu=>hl u (by simp[hu]))))
include h
theorem UN (t:Tree) (ht:t.all Gm∧(t.n.kind=2∨t.n.kind=3)):Pass (yV r) t.row:=by
 obtain⟨n,ks⟩:=t
 obtain⟨ha,hk⟩:=ht
 have hg:=ha.1.2;have hrow:(Tree.mk n ks).row={ n with kids:=(ks.length:Int) }::rows ks:=by simp[Tree.row]
 unfold yV;rw[hrow];refine jM ?_;rcases hk with hk|hk
 ·replace hk:n.kind=2:=hk;simp only[dR,hk]at hg;have hg:dI n∧ks=[]:=hg;obtain⟨hn,rfl⟩:=hg
  rw[if_pos (by simp[hk])];exact kL 2 0 hk rfl (by decide) hn (dX _)
 ·replace hk:n.kind=3:=hk;simp only[dR,hk]at hg;have hg:dI n∧∃ps b,ks=ps++[b]∧(∀t∈ps,t.n.kind=4)∧Dn b:=hg;obtain⟨hn,ps,b,rfl,h1,h2⟩:=hg
  rw[if_neg (by simp[hk])];unfold kM;refine jM (fG (by simp[hk]) (eO (by simp;omega) (.inl rfl) (.inr hn.2.1) (.inr hn.2.2) (fG (by simp) (nZ hn.1 (bL ?_)))));have hps:∀t∈ps,t.all Gm∧t.n.kind=4:=fun t ht=>⟨aad (zB 0) ha (by simp[ht]),h1 t ht⟩
  have hb:=h.block b ⟨aad (zB 0) ha (by simp),h2⟩;have fin:Pass (do put [[41]];r.block) b.row:=bL hb
  have hrows:rows (ps++[b])=rows ps++b.row:=by
   have:∀l:List Tree,rows (l++[b])=rows l++b.row:=fun l=>by
    induction l with
    | nil=>simp[rows]
    | cons a l ih=>simp[rows,ih]
   exact this ps
  rw[hrows];have hlen:((((ps++[b]).length:Nat):Int)-1).toNat=ps.length:=by simp
  show Pass ((match ((((ps++[b]).length:Nat):Int)-1).toNat with
   | 0=>pure ()
   | m+1=>do
    let s ←jo 4 0
    put [s]
    mq m) >>= fun _=>do put [[41]];r.block) _
  rw[hlen];refine Pass.bind ?_ fun _=>fin
  cases ps with
  | nil=>exact qH ()
  | cons t l =>
   obtain⟨m,g1,g2,g3⟩:=Ez (hps t (by simp))
   have:rows (t::l)={ m with kids:=((0:Nat):Int) }::rows l:=by simp[rows,g1]
   rw[this];exact kL 4 0 g2 rfl (by decide) g3 (bL (EA l fun u hu=>hps u (by simp[hu])))
theorem Le (t:Tree) (ha:t.all Gm) (hk:t.n.kind=1):Pass (jV r) t.row:=by
 obtain⟨n,ks⟩:=t
 replace hk:n.kind=1:=hk;have hg:=ha.1.2;simp only[dR,hk]at hg;have hg:dK n∧∀t∈ks,t.n.kind=2∨t.n.kind=3:=hg;have hrow:(Tree.mk n ks).row={ n with kids:=(ks.length:Int) }::rows ks:=by simp[Tree.row]
 unfold jV;rw[hrow];refine jM (fG (by simp[hk]) (eO (by simp) (.inr hg.1.1) (.inr hg.1.2.1) (.inr hg.1.2.2) ?_))
 have:Pass (uJ (yV r) ks.length) (rows ks):=IY h fun u hu=>UN h u ⟨aad h ha hu,hg.2 u hu⟩
 simpa using this
end
theorem KR (t:Tree) (ha:t.all Gm) (hk:t.n.kind=1) (hc:cost t.row≤1099511627000):print t.row≠none:=by
 have h1:=GQ t.row hc;have h2:=Le (zB (vR t.row)) t ha hk [] [];rw[List.append_nil]at h2
 intro hn;rw[hn]at h1
 unfold lQ at h1;rcases h2 with h2|⟨a,toks,h2⟩
 ·rw[h2]at h1;cases h1
 ·rw[h2]at h1;simp at h1
structure IZ (n:Node):Prop where
 text:n.text.length≤65536
 JK:0≤n.int
 JL:n.int≤9223372036854775807
 Al:0≤n.bits
 Am:n.bits≤9223372036854775807
theorem Cc {n:Node} {ks:List Tree} (h:dR n ks):1≤n.kind∧n.kind≤31:=by
 by_cases hr:1≤n.kind∧n.kind≤31
 ·exact hr
 ·exfalso;unfold dR at h
  repeat rw[if_neg (by omega)]at h
  exact h
theorem Ce {n:Node} {ks:List Tree} (h:dR n ks):n.kind=1∨n.kind=2∨n.kind=3∨n.kind=4∨n.kind=5∨n.kind=6∨n.kind=7∨n.kind=8∨n.kind=9∨n.kind=10∨n.kind=11∨n.kind=12∨n.kind=13∨n.kind=14∨n.kind=15∨n.kind=16∨n.kind=17∨n.kind=18∨n.kind=19∨n.kind=20∨n.kind=21∨n.kind=22∨n.kind=23∨n.kind=24∨n.kind=25∨n.kind=26∨n.kind=27∨n.kind=28∨n.kind=29∨n.kind=30∨n.kind=31:=by
 have:=Cc h
 omega
theorem UO {n:Node} {ks:List Tree} (h:Gm n ks):IZ n:=by
 obtain⟨h0,h⟩:=h
 have bare:dK n→IZ n:=fun⟨_,h2,h3⟩=>⟨h0,by omega,by omega,by omega,by omega⟩
 have named:dI n→IZ n:=fun⟨_,h2,h3⟩=>⟨h0,by omega,by omega,by omega,by omega⟩
 have plain:rD n→IZ n:=fun⟨h2,h3⟩=>⟨h0,by omega,by omega,by omega,by omega⟩
 have hkk:=Ce h;unfold dR at h;rcases hkk with hk|hk|hk|hk|hk|hk|hk|hk|hk|hk|hk|hk|hk|hk|hk|hk|hk|hk|hk|hk|hk|hk|hk|hk|hk|hk|hk|hk|hk|hk|hk
 all_goals (repeat rw[if_neg (by omega)]at h)
 all_goals rw[if_pos (by omega)]at h
 all_goals first
  | exact bare h.1
  | exact named h.1
  | exact plain h.1
  | exact h.elim
  | exact h.1.elim named bare
  | skip
 ·exact⟨h0,h.2.2.1,h.2.2.2.1,by rw[h.2.1];decide,by rw[h.2.1];decide⟩
 ·obtain⟨_,h2,h3,_⟩:=h
  unfold oQ wT at h3;refine⟨h0,by omega,by omega,?_,?_⟩<;>(rcases h3 with h3|h3<;>omega)
theorem QY {n:Node} (h:IZ n):bA n≤328200:=by
 have h1:=vU n.int (by rw[show(10:Nat) ^ 20=100000000000000000000 by decide];have:=h.JK;have:=h.JL;omega);have h2:=JU n.bits.toNat
 have:=h.text
 unfold bA;omega
mutual
theorem zA:∀t:Tree,t.all Gm→∀n∈t.row,IZ n∧0≤n.kids∧n.kids≤t.size
 | .mk n ks,ha,m,hm=>by
  unfold Tree.row at hm;rcases List.mem_cons.1 hm with rfl|hm
  ·have:=UO ha.1
   have hl:ks.length≤sizes ks:=by
    have:∀l:List Tree,l.length≤sizes l:=fun l=>by
     induction l with
     | nil=>simp
     | cons a l ih=>have:=size_pos a;simp[sizes];omega
    exact this ks
   exact⟨⟨this.text,this.JK,this.JL,this.Al,this.Am⟩,by simp,by simp only[Tree.size];omega⟩
  ·obtain⟨h1,h2,h3⟩:=I4 ks ha.2 m hm
   exact⟨h1,h2,by simp only[Tree.size];omega⟩
theorem I4:∀l:List Tree,oH Gm l→∀n∈rows l,IZ n∧0≤n.kids∧n.kids≤sizes l
 | [],_,m,hm=>by cases hm
 | t::l,ha,m,hm=>by
  unfold rows at hm;rcases List.mem_append.1 hm with hm|hm
  ·obtain⟨h1,h2,h3⟩:=zA t ha.1 m hm
   exact⟨h1,h2,by simp only[sizes];omega⟩
  ·obtain⟨h1,h2,h3⟩:=I4 l ha.2 m hm
   exact⟨h1,h2,by simp only[sizes];omega⟩
end
theorem Sd (l:List Node) (h:∀n∈l,IZ n):cost l≤l.length*328200:=by
 induction l with
 | nil=>simp[cost]
 | cons n l ih =>
  have h1:=QY (h n (by simp));have h2:=ih (fun m hm=>h m (by simp[hm]));unfold cost at h2 ⊢;simp only[List.map_cons,List.sum_cons,List.length_cons];omega
theorem qE {n:Node} {ks:List Tree} (h:Gm n ks):n.kind≤31∧0≤n.kind∧(n.kind=11→3≤ks.length)∧(n.kind=10→ks.length=2)∧(n.kind=3→ks≠[]):=by
 obtain⟨_,h⟩:=h
 have hr:=Cc h
 have e11:n.kind=11→3≤ks.length:=fun hk=>by
  unfold dR at h
  repeat rw[if_neg (by omega)]at h
  rw[if_pos (by omega)]at h
  rcases h.2 with⟨a,b,c,e,_⟩|⟨a,b,c,d,e,_⟩<;>rw[e]<;>simp
 have e10:n.kind=10→ks.length=2:=fun hk=>by
  unfold dR at h
  repeat rw[if_neg (by omega)]at h
  rw[if_pos (by omega)]at h
  obtain⟨a,b,e,_⟩:=h.2
  rw[e];simp
 have e3:n.kind=3→ks≠[]:=fun hk=>by
  unfold dR at h
  repeat rw[if_neg (by omega)]at h
  rw[if_pos (by omega)]at h
  obtain⟨a,b,e,_⟩:=h.2
  rw[e];simp
 exact⟨hr.2,by omega,e11,e10,e3⟩
theorem Qm {n:Node} {ks:List Tree} (h:Gm n ks) (hk:3≤n.kind):∀t∈ks,4≤t.n.kind:=by
 obtain⟨_,h⟩:=h
 have e1:∀t:Tree,tO t→4≤t.n.kind:=fun t ht=>by have:=ht.1;omega
 have e2:∀t:Tree,Dn t→4≤t.n.kind:=fun t ht=>by have:t.n.kind=5:=ht;omega
 have e3:∀t:Tree,Xj t→4≤t.n.kind:=fun t ht=>by have:=ht.1;omega
 have one:pq ks→∀t∈ks,4≤t.n.kind:=fun⟨e,h1,h2⟩ t ht=>by rw[h1]at ht;simp at ht;subst ht;exact e1 _ h2
 have two:BU ks→∀t∈ks,4≤t.n.kind:=fun⟨e,f,h1,h2,h3⟩ t ht=>by rw[h1]at ht;simp at ht;rcases ht with rfl|rfl<;>apply e1<;>assumption
 have nil:ks=[]→∀t∈ks,4≤t.n.kind:=fun h1 t ht=>by rw[h1]at ht;cases ht
 have k9:((∃e b,ks=[e,b]∧tO e∧Dn b)∨∃e b c,ks=[e,b,c]∧tO e∧Dn b∧(Dn c∨c.n.kind=9))→∀t∈ks,4≤t.n.kind:=by
  rintro(⟨e,b,rfl,h1,h2⟩|⟨e,b,c,rfl,h1,h2,h3⟩) t ht
  ·simp at ht;rcases ht with rfl|rfl
   ·exact e1 _ h1
   ·exact e2 _ h2
  ·simp at ht;rcases ht with rfl|rfl|rfl
   ·exact e1 _ h1
   ·exact e2 _ h2
   ·rcases h3 with h3|h3
    ·exact e2 _ h3
    ·omega
 have k11:((∃e g b,ks=[e,g,b]∧tO e∧tO g∧Dn b)∨∃l e g b,ks=[l,e,g,b]∧l.n.kind=12∧tO e∧tO g∧Dn b)→∀t∈ks,4≤t.n.kind:=by
  rintro(⟨e,g,b,rfl,h1,h2,h3⟩|⟨l,e,g,b,rfl,h0,h1,h2,h3⟩) t ht
  ·simp at ht;rcases ht with rfl|rfl|rfl
   ·exact e1 _ h1
   ·exact e1 _ h2
   ·exact e2 _ h3
  ·simp at ht;rcases ht with rfl|rfl|rfl|rfl
   ·omega
   ·exact e1 _ h1
   ·exact e1 _ h2
   ·exact e2 _ h3
 have hkk:=Ce h;unfold dR at h;rcases hkk with hk|hk|hk|hk|hk|hk|hk|hk|hk|hk|hk|hk|hk|hk|hk|hk|hk|hk|hk|hk|hk|hk|hk|hk|hk|hk|hk|hk|hk|hk|hk
 all_goals try (exfalso;omega;done)
 all_goals (repeat rw[if_neg (by omega)]at h)
 all_goals rw[if_pos (by omega)]at h
 all_goals first
  | exact k9 h.2
  | exact k11 h.2
  | exact nil h.2
  | exact nil h.2.2.2.2
  | exact nil h.2.2.2
  | exact one h.2
  | exact two h.2
  | exact one h.2.2
  | exact two h.2.2
  | (intro t ht;exact e3 t (h.2 t ht))
  | (intro t ht;exact e1 t (h.2 t ht))
  | (intro t ht;rcases h.2 with h2|h2;exact nil h2 t ht;exact one h2 t ht)
  | (obtain⟨ps,b,rfl,h1,h2⟩:=h.2;intro t ht;rcases List.mem_append.1 ht with ht|ht;have:=h1 t ht;omega;(obtain rfl:t=b:=by simpa using ht);exact e2 _ h2)
  | (obtain⟨e,f,g,rfl,h1,h2,h3⟩:=h.2;intro t ht;simp at ht;rcases ht with rfl|rfl|rfl<;>apply e1<;>assumption)
  | (obtain⟨e,b,rfl,h1,h2⟩:=h.2;intro t ht;simp at ht;rcases ht with rfl|rfl;exact e1 _ h1;exact e2 _ h2)
def meets (n:Node):Bool:=n.kind==21 && !(n.text==[38]||n.text==[124]||n.text==[94]||n.text==[60,60]||n.text==[62,62])
def sites (l:List Node):List Int:=((l.filter meets).map (·.at')).mergeSort (fun a b=>decide (a≤b))
def isFn (name:Bytes) (n:Node):Bool:=n.kind==3&&n.text==name
def regs (T:Tree) (name:Bytes):Nat :=
 if (bC T true).code==0 then match T.ks.find? (fun t=>isFn name t.n) with
  | some t=>registers t
  | none=>0
 else 0
def yg (s:Bytes):Option Tree :=
 match fU (aM s).2 (fuel s) (iM (aM s).1 0) with
 | some (.ok (T,_))=>some T
 | _=>none
theorem K4 {s:Bytes} {T:Tree} (h:yg s=some T) (hc:bC T false=⟨0,0⟩):kU s=(T.row,⟨0,0⟩)∧T.all Gm∧T.n.kind=1:=by
 unfold yg at h;unfold kU;cases hp:fU (aM s).2 (fuel s) (iM (aM s).1 0) with
 | none=>rw[hp]at h;cases h
 | some r =>
  cases r with
  | error f=>rw[hp]at h;cases h
  | ok p =>
   obtain⟨T',ts⟩:=p
   rw[hp]at h
   obtain rfl:T'=T:=by injection h
   refine⟨?_,yP s _ T' ts hp⟩;simp only[hc];rfl
def xZ (n:Nat) (b:Bytes):Bytes:=(List.replicate n b).flatten
theorem x9 (n:Nat) (b:Bytes):xZ (n+1) b=xZ n b++b:=by
 unfold xZ;rw[List.replicate_succ',List.flatten_append];simp
theorem IQ (n:Nat) (b:Bytes):(xZ n b).length=n*b.length:=by
 induction n with
 | zero=>simp[xZ]
 | succ n ih=>rw[x9,List.length_append,ih,Nat.succ_mul]
def Here (s:Bytes) (a:Nat) (t:Tok):Prop:=∃k:Nat,t.at'=((a+k:Nat):Int)∧k≤s.length∧(t.kind=3→t.text∈marks∧t.text.isPrefixOf (s.drop k)=true)
theorem Here.later {s:Bytes} {a j:Nat} {t:Tok} (h:Here (s.drop j) (a+j) t) (hj:j≤s.length):Here s a t:=by
 obtain⟨k,h1,h2,h3⟩:=h
 refine⟨j+k,by rw[h1];simp;omega,by simp at h2;omega,fun e=>?_⟩
 have:=h3 e
 rwa [List.drop_drop]at this
theorem abL (s:Bytes) (t:Tok) (k:Nat) (h:jv s=.ok (t,k)):t.kind=3∧t.text∈marks∧t.text.isPrefixOf s=true:=by
 unfold jv at h;split at h
 ·rename_i m hm;cases h;have h1:=List.find?_some hm;have h2:=List.mem_of_find?_eq_some hm;exact⟨rfl,h2,h1⟩
 ·cases h
theorem aaO:∀(m:Nat) (s:Bytes),s.length≤m→∀(b:Bytes) (n:Nat) (t:Tok) (k:Nat),aS s b n=.ok (t,k)→t.kind=6:=by
 intro m
 induction m with
 | zero =>
  intro s hs b n t k h;obtain rfl:=List.eq_nil_of_length_eq_zero (by omega:s.length=0);rw[aS.eq_def]at h;cases h
 | succ m ih =>
  intro s hs b n t k h;cases s with
  | nil=>rw[aS.eq_def]at h;cases h
  | cons c s =>
   simp only[List.length_cons]at hs;rw[aS.eq_def]at h
   simp only at h;split at h
   ·cases h;rfl
   split at h
   ·exact ih s (by omega) _ _ _ _ h
   split at h
   ·cases h
   split at h
   ·cases h
   ·rename_i d s';simp only[List.length_cons]at hs;split at h
    ·exact ih s' (by omega) _ _ _ _ h
    split at h
    ·exact ih s' (by omega) _ _ _ _ h
    split at h
    ·rename_i x y s'';simp only[List.length_cons]at hs;split at h
     ·exact ih s'' (by omega) _ _ _ _ h
     ·cases h
    ·cases h
theorem ad2 (s:Bytes) (t:Tok) (k:Nat) (h:bM s=.ok (t,k)):t.kind=3→t.text∈marks∧t.text.isPrefixOf s=true:=by
 intro hk;cases s with
 | nil=>cases h
 | cons c r =>
  simp only[bM]at h;split at h
  ·unfold gq at h;simp only at h
   repeat' split at h
   all_goals cases h
   all_goals simp at hk
  split at h
  ·unfold aP at h;split at h
   ·cases h;simp at hk
   ·cases h
  split at h
  ·unfold jD at h;split at h
   ·cases h;simp at hk
   ·cases h
  split at h
  ·have:=aaO _ _ (Nat.le_refl _) _ _ _ _ h
   omega
  ·exact(abL _ _ _ h).2
theorem aax:∀(f:Nat) (s:Bytes) (a:Nat),(∀t∈(lexFrom f s a).1,Here s a t)∧(lexFrom f s a).1.Pairwise (fun t u=>t.at'<u.at')
 | 0,s,a=>by simp[lexFrom]
 | f+1,[],a=>by
  simp only[lexFrom,List.mem_singleton,List.pairwise_cons,List.not_mem_nil,false_implies,implies_true,List.Pairwise.nil,and_self,and_true];rintro t rfl;exact⟨0,by simp,by simp,fun e=>by simp at e⟩
 | f+1,c::s,a=>by
  simp only[lexFrom];split
  ·obtain⟨h1,h2⟩:=aax f s (a+1)
   exact⟨fun t ht=>Here.later (j:=1) (h1 t ht) (by simp),h2⟩
  split
  ·have hl:=qP (fun d=>d != 10) (c::s);generalize run (fun d=>d != 10) (c::s)=k at *;obtain⟨h1,h2⟩:=aax f ((c::s).drop k) (a+k)
   exact⟨fun t ht=>(h1 t ht).later hl,h2⟩
  ·cases hn:bM (c::s) with
   | error e=>simp
   | ok p =>
    obtain⟨t,k⟩:=p
    obtain⟨hk1,hk2⟩:=yx _ _ _ hn
    obtain⟨h1,h2⟩:=aax f ((c::s).drop k) (a+k)
    simp only[List.mem_cons,forall_eq_or_imp,List.pairwise_cons];refine⟨⟨⟨0,by simp,by simp,fun e=>ad2 (c::s) t k hn e⟩,fun t ht=>(h1 t ht).later hk2⟩,⟨fun u hu=>?_,h2⟩⟩;obtain⟨j,hj,_⟩:=h1 u hu
    rw[hj];omega
theorem aaP (s:Bytes):(∀t∈(aM s).1,Here s 0 t)∧(aM s).1.Pairwise (fun t u=>t.at'<u.at'):=by
 unfold aM;split
 ·simp
 ·exact aax _ _ _
theorem aaU (xo:Int × Bytes):∀(l:List Tok) (n:Int),afy xo (iM l n)=(l.filter (fun t=>t.kind==3&&(t.at',t.text)==xo)).length
 | [],_=>rfl
 | t::l,n=>by
  have h:=aaU xo l (if opens t then n+1 else if closes t then n-1 else n);unfold afy at *;simp only[iM,List.filter_cons];split
  ·rw[List.length_cons,List.length_cons,h]
  ·exact h
theorem once {l:List Tok} (h:l.Pairwise (fun t u=>t.at'<u.at')) (p:Tok→Bool) (a:Int) (hp:∀t,p t=true→t.at'=a):(l.filter p).length≤1:=by
 have h1:=h.filter p;cases hf:l.filter p with
 | nil=>simp
 | cons t r =>
  cases r with
  | nil=>simp
  | cons u r =>
   rw[hf]at h1
   have ht:=hp t (List.mem_filter.1 (hf ▸ List.mem_cons_self:t∈l.filter p)).2;have hu:=hp u (List.mem_filter.1 (hf ▸ List.mem_cons_of_mem _ List.mem_cons_self:u∈l.filter p)).2
   have:=(List.pairwise_cons.1 h1).1 u List.mem_cons_self
   omega
theorem agj {l:List Tok} (h:l.Pairwise (fun t u=>t.at'<u.at')):∀t∈l,∀u∈l,t.at'=u.at'→t=u:=by
 induction h with
 | nil=>intro t ht;cases ht
 | @cons a l ha _ ih =>
  intro t ht u hu e;rcases List.mem_cons.1 ht with h1|ht<;>rcases List.mem_cons.1 hu with h2|hu
  ·rw[h1,h2]
  ·have:=ha u hu;rw[h1]at e;omega
  ·have:=ha t ht;rw[h2]at e;omega
  ·exact ih t ht u hu e
theorem abY (s:Bytes) (F:dS) (n:Nat) (T:Tree) (ts':TS) (h:fU F n (iM (aM s).1 0)=some (.ok (T,ts'))) (m:Node) (hm:m∈T.row) (hk:m.kind=21):∃t∈(aM s).1,t.kind=3∧t.at'=m.at'∧t.text=m.text:=by
 have h1:=aaZ (m.at',m.text) F n _ T ts' h;rw[aaU]at h1
 have h2:1≤aeN (m.at',m.text) T.row:=by
  unfold aeN;exact List.length_pos_of_mem (List.mem_filter.2 ⟨hm,by simp[hk]⟩)
 obtain⟨t,ht⟩:=List.exists_mem_of_length_pos (Nat.lt_of_lt_of_le h2 h1)
 obtain⟨ht1,ht2⟩:=List.mem_filter.1 ht
 simp only[Bool.and_eq_true,beq_iff_eq,Prod.mk.injEq]at ht2;exact⟨t,ht1,ht2.1,ht2.2.1,ht2.2.2⟩
theorem ac7 (s:Bytes) (F:dS) (n:Nat) (T:Tree) (ts':TS) (h:fU F n (iM (aM s).1 0)=some (.ok (T,ts'))) (q:Node→Bool) (hq:∀m,q m=true→m.kind=21):((T.row.filter q).map (·.at')).Nodup:=by
 rw[List.nodup_iff_count];intro p;obtain⟨_,hpw⟩:=aaP s
 rw[List.count_eq_countP,List.countP_map,List.countP_filter,List.countP_eq_length_filter];by_cases hz:∃m∈T.row,q m=true∧m.at'=p
 ·obtain⟨m,hm,hqm,hpm⟩:=hz
  have h1:=aaZ (p,m.text) F n _ T ts' h;rw[aaU]at h1
  have h2:=once hpw (fun t=>t.kind==3&&(t.at',t.text)==(p,m.text)) p (fun t ht=>by simp at ht;exact ht.2.1);refine Nat.le_trans ?_ (Nat.le_trans h1 h2);unfold aeN;rw[←List.countP_eq_length_filter,←List.countP_eq_length_filter];refine List.countP_mono_left (fun x hx hc=>?_);simp only[Function.comp_apply,Bool.and_eq_true,beq_iff_eq]at hc;have hkx:=hq x hc.2;obtain⟨t,ht,_,ht2,ht3⟩:=abY s F n T ts' h m hm (hq m hqm)
  obtain⟨u,hu,_,hu2,hu3⟩:=abY s F n T ts' h x hx hkx
  have e:=agj hpw t ht u hu (by rw[ht2,hu2,hpm,hc.1]);simp only[Bool.and_eq_true,beq_iff_eq,Prod.mk.injEq];exact⟨hkx,hc.1,by rw[←hu3,←e,ht3]⟩
 ·rw[List.length_eq_zero_iff.2]
  ·omega
  ·rw[List.filter_eq_nil_iff];intro x hx hc;simp only[Function.comp_apply,Bool.and_eq_true,beq_iff_eq]at hc;exact hz ⟨x,hx,hc.2,hc.1⟩
theorem aaF {p:UInt8→Bool} (hp:p 10=false) (q:Bytes):∀s:Bytes,run p (s++10::q)=run p s
 | []=>by simp[run,hp]
 | c::s=>by
  simp only[List.cons_append,run,aaF hp q s]
theorem aa1 {s:Bytes} {n:Nat} (h:n≤s.length) (q:Bytes):(s++q).take n=s.take n:=by
 rw[List.take_append_of_le_length h]
theorem adC (q:Bytes):∀(m s:Bytes),m.contains 10=false→s≠[]→m.isPrefixOf (s++10::q)=m.isPrefixOf s:=by
 intro m
 induction m with
 | nil=>intro s _ _;simp[List.isPrefixOf]
 | cons x m ih =>
  intro s hm hs;cases s with
  | nil=>exact absurd rfl hs
  | cons c s =>
   simp only[List.contains_cons,Bool.or_eq_false_iff]at hm;simp only[List.cons_append,List.isPrefixOf];cases s with
   | nil =>
    cases m with
    | nil=>simp[List.isPrefixOf]
    | cons y m =>
     have:=hm.2
     simp only[List.contains_cons,Bool.or_eq_false_iff,beq_eq_false_iff_ne]at this;have h1:(y==10)=false:=by rw[beq_eq_false_iff_ne];exact fun e=>this.1 e.symm
     simp[List.isPrefixOf,h1]
   | cons d s=>rw[ih _ hm.2 (by simp)]
theorem adD (q:Bytes):∀(m:Nat) (s:Bytes),s.length≤m→∀(b:Bytes) (n:Nat) (t:Tok) (k:Nat),aS s b n=.ok (t,k)→aS (s++q) b n=.ok (t,k):=by
 intro m
 induction m with
 | zero =>
  intro s hs b n t k h;obtain rfl:=List.eq_nil_of_length_eq_zero (by omega:s.length=0);rw[aS.eq_def]at h;cases h
 | succ m ih =>
  intro s hs b n t k h;cases s with
  | nil=>rw[aS.eq_def]at h;cases h
  | cons c s =>
   simp only[List.length_cons]at hs;rw[aS.eq_def]at h ⊢
   simp only[List.cons_append]at h ⊢;split at h
   ·rename_i c1;rw[if_pos c1];exact h
   rename_i c1;rw[if_neg c1];split at h
   ·rename_i c2;rw[if_pos c2];exact ih s (by omega) _ _ _ _ h
   rename_i c2;rw[if_neg c2];split at h
   ·cases h
   rename_i c3;rw[if_neg c3];cases s with
   | nil=>cases h
   | cons d s =>
    simp only[List.length_cons,List.cons_append]at hs h ⊢;split at h
    ·rename_i c4;rw[if_pos c4];exact ih s (by omega) _ _ _ _ h
    rename_i c4;rw[if_neg c4];split at h
    ·rename_i c5;rw[if_pos c5];exact ih s (by omega) _ _ _ _ h
    rename_i c5;rw[if_neg c5]
    match s,h with
    | x::y::s,h =>
     simp only[List.length_cons,List.cons_append]at hs h ⊢;split at h
     ·rename_i c6;rw[if_pos c6];exact ih s (by omega) _ _ _ _ h
     ·cases h
theorem ad4:∀m∈marks,m.contains 10=false:=by decide
theorem aeO (s q:Bytes) (hs:s≠[]):jv (s++10::q)=jv s:=by
 unfold jv
 have h:∀l:List Bytes,(∀m∈l,m.contains 10=false)→l.find? (fun m=>m.isPrefixOf (s++10::q))=l.find? (fun m=>m.isPrefixOf s):=by
  intro l
  induction l with
  | nil=>intro _;rfl
  | cons m l ih =>
   intro hl;simp only[List.find?_cons];rw[adC q m s (hl m List.mem_cons_self) hs,ih (fun x hx=>hl x (List.mem_cons_of_mem _ hx))]
 rw[h _ ad4]
theorem adE (s q:Bytes) (hs:2≤s.length):bW (s++10::q)=bW s:=by
 have hl:=qP (fun c=>lM c||c==46) (s.drop 2);unfold bW;have e1:(s++10::q).drop 2=s.drop 2++10::q:=List.drop_append_of_le_length hs;simp only[e1,aaF (p:=fun c=>lM c||c==46) (by decide)];generalize run (fun c=>lM c||c==46) (s.drop 2)=R at *;have hR:2+R≤s.length:=by simp at hl;omega
 rw[List.drop_append_of_le_length hR];generalize s.drop (2+R)=u;cases u with
 | nil=>rfl
 | cons a u =>
  cases u with
  | nil =>
   by_cases h:a=112
   ·subst h;rfl
   ·simp only[List.cons_append,List.nil_append];split
    ·rename_i h1;injection h1 with h1;exact absurd h1 h
    ·split
     ·rename_i h1;injection h1 with h1;exact absurd h1 h
     ·rfl
  | cons b u =>
   by_cases h:a=112
   ·subst h;have e2:=aaF (p:=digit) (by decide) q u;have e3:=aaF (p:=digit) (by decide) q (b::u);simp only[List.cons_append]at e3 ⊢;rw[e2,e3]
   ·simp only[List.cons_append];split
    ·rename_i h1;injection h1 with h1;exact absurd h1 h
    ·split
     ·rename_i h1;injection h1 with h1;exact absurd h1 h
     ·rfl
theorem aeP (c:UInt8) (s q:Bytes) (t:Tok) (k:Nat) (h:bM (c::s)=.ok (t,k)):bM (c::s++10::q)=.ok (t,k):=by
 simp only[bM,List.cons_append]at h ⊢;have hp:=adC q [48,120] (c::s) (by decide) (by simp);simp only[List.cons_append]at hp;rw[hp];split at h
 ·rename_i c1;rw[if_pos c1];have e:=aaF (p:=fun c=>lower c||digit c) (by decide) q (c::s);have hl:=qP (fun c=>lower c||digit c) (c::s);have e2:=aa1 hl (10::q);simp only[List.cons_append]at e e2;unfold gq at h ⊢;simp only[e,e2];exact h
 rename_i c1;rw[if_neg c1];split at h
 ·rename_i c2;rw[if_pos c2]
  have h2:2≤(c::s).length:=by
   cases s with
   | nil=>simp[List.isPrefixOf]at c2
   | cons d s=>simp
  have e:=adE (c::s) q h2;have e2:=aa1 (EH (c::s) h2) (10::q);simp only[List.cons_append]at e e2;unfold aP at h ⊢;rw[e,e2];exact h
 rename_i c2;rw[if_neg c2];split at h
 ·rename_i c3;rw[if_pos c3];have e:=aaF (p:=digit) (by decide) q (c::s);have e2:=aa1 (qP digit (c::s)) (10::q);simp only[List.cons_append]at e e2;unfold jD at h ⊢;rw[e,e2];exact h
 rename_i c3;rw[if_neg c3];split at h
 ·rename_i c4;rw[if_pos c4];exact adD _ _ _ (Nat.le_refl _) _ _ _ _ h
 rename_i c4;rw[if_neg c4]
 have:=aeO (c::s) q (by simp)
 simp only[List.cons_append]at this;rw[this];exact h
theorem aaq:∀(f g:Nat) (s:Bytes) (a:Nat),s.length<f→s.length<g→lexFrom f s a=lexFrom g s a
 | 0,_,s,a,h,_=>by omega
 | _+1,0,s,a,_,h=>by omega
 | f+1,g+1,[],a,_,_=>rfl
 | f+1,g+1,c::s,a,h1,h2=>by
  simp only[List.length_cons]at h1 h2;simp only[lexFrom];split
  ·exact aaq f g s _ (by omega) (by omega)
  split
  ·have:=qP (fun d=>d != 10) (c::s)
   rename_i hc
   have h3:1≤run (fun d=>d != 10) (c::s):=by
    simp only[run]
    have:(c != 10)=true:=by have:=beq_iff_eq.1 hc;subst this;decide
    rw[if_pos this];omega
   exact aaq f g _ _ (by simp;omega) (by simp;omega)
  ·cases hn:bM (c::s) with
   | error e=>rfl
   | ok p =>
    obtain⟨t,k⟩:=p
    have:=yx _ _ _ hn
    simp only;rw[aaq f g ((c::s).drop k) _ (by simp;omega) (by simp;omega)]
def eof (a:Nat):Tok:=⟨7,a,[],0,0⟩
theorem adF:∀(m:Nat) (s:Bytes),s.length≤m→∀(b:Bytes) (n:Nat) (e:Int),aS s b n=.error e→e=61:=by
 intro m
 induction m with
 | zero =>
  intro s hs b n e h;obtain rfl:=List.eq_nil_of_length_eq_zero (by omega:s.length=0);rw[aS.eq_def]at h;cases h;rfl
 | succ m ih =>
  intro s hs b n e h;rw[aS.eq_def]at h
  repeat' split at h
  all_goals first|(cases h;rfl)|cases h|exact ih _ (by simp only[List.length_cons]at hs;omega) _ _ _ h
theorem ac8 (s:Bytes) (e:Int) (h:bM s=.error e):e≠0:=by
 unfold bM at h;split at h
 ·cases h;decide
 split at h
 ·unfold gq at h;simp only at h
  repeat' split at h
  all_goals first|(cases h;decide)|cases h
 split at h
 ·unfold aP at h;split at h
  ·cases h
  ·cases h;decide
 split at h
 ·unfold jD at h;split at h
  ·cases h
  ·cases h;decide
 split at h
 ·have:=adF _ _ (Nat.le_refl _) _ _ _ h;omega
 ·unfold jv at h;split at h
  ·cases h
  ·cases h;decide
theorem aas (q:Bytes):∀(f:Nat) (s:Bytes) (a:Nat),s.length<f→(lexFrom f s a).2=⟨0,0⟩ →
  ∃L,(lexFrom f s a).1=L++[eof (a+s.length)]∧∀g,(s++10::q).length<g→lexFrom g (s++10::q) a=(L++(lexFrom (q.length+2) (10::q) (a+s.length)).1,(lexFrom (q.length+2) (10::q) (a+s.length)).2)
 | 0,s,a,h,_=>by omega
 | f+1,[],a,_,_=>⟨[],by simp[lexFrom,eof],fun g hg=>by
   rw[List.nil_append]at hg ⊢
   rw[aaq g (q.length+2) _ _ hg (by simp)];simp⟩
 | f+1,c::s,a,hl,he=>by
  simp only[List.length_cons]at hl;simp only[lexFrom]at he ⊢;split at he
  ·rename_i c1;obtain⟨L,h1,h2⟩:=aas q f s (a+1) (by omega) he
   rw[if_pos c1,show a+(c::s).length=a+1+s.length by simp;omega];refine⟨L,h1,fun g hg=>?_⟩;obtain⟨g,rfl⟩:∃g',g=g'+1:=⟨g-1,by omega⟩
   simp only[List.cons_append,lexFrom];rw[if_pos c1];exact h2 g (by simp at hg ⊢;omega)
  rename_i c1;rw[if_neg c1];split at he
  ·rename_i c2;have hk:=qP (fun d=>d != 10) (c::s)
   have h3:1≤run (fun d=>d != 10) (c::s):=by
    simp only[run]
    have:(c != 10)=true:=by have:=beq_iff_eq.1 c2;subst this;decide
    rw[if_pos this];omega
   have hm:=aaF (p:=fun d=>d != 10) (by decide) q (c::s);obtain⟨L,h1,h2⟩:=aas q f _ _ (by simp at hk ⊢;omega) he
   rw[if_pos c2];have e:a+run (fun d=>d != 10) (c::s)+((c::s).drop (run (fun d=>d != 10) (c::s))).length=a+(c::s).length:=by rw[List.length_drop];omega
   rw[e]at h1 h2
   refine⟨L,h1,fun g hg=>?_⟩;obtain⟨g,rfl⟩:∃g',g=g'+1:=⟨g-1,by omega⟩
   simp only[List.cons_append]at hm;simp only[List.cons_append,lexFrom];rw[if_neg c1,if_pos c2,hm,←List.cons_append,List.drop_append_of_le_length hk];exact h2 g (by simp at hg ⊢;omega)
  rename_i c2;rw[if_neg c2];cases hn:bM (c::s) with
  | error e =>
   rw[hn]at he
   simp only at he;have h5:=ac8 _ _ hn;injection he with h6 h7;omega
  | ok p =>
   obtain⟨t,k⟩:=p
   rw[hn]at he
   simp only at he ⊢;have hk:=yx _ _ _ hn;obtain⟨L,h1,h2⟩:=aas q f _ _ (by simp at hk ⊢;omega) he
   have e:a+k+((c::s).drop k).length=a+(c::s).length:=by rw[List.length_drop];omega
   rw[e]at h1 h2
   refine⟨{ t with at':=a }::L,by rw[h1];rfl,fun g hg=>?_⟩;obtain⟨g,rfl⟩:∃g',g=g'+1:=⟨g-1,by omega⟩
   have hm:=aeP c s q t k hn;simp only[List.cons_append]at hm;simp only[List.cons_append,lexFrom];rw[if_neg c1,if_neg c2,hm];simp only;rw[←List.cons_append,List.drop_append_of_le_length hk.2,h2 g (by simp at hg ⊢;omega)];rfl
end Ck
end
