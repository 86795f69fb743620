/- A part of the proof. -/
import Derived.Test.YtoomapkcoibmhaaGreatDoorQ4
set_option maxRecDepth 100000
set_option maxHeartbeats 12800000
set_option linter.all false
section
namespace Ck
def Pass {α:Type} (m:Pr α) (pre:List Node):Prop:=∀rest toks,m (pre++rest,toks)=none∨∃a toks',m (pre++rest,toks)=some (some (a,(rest,toks')))
def Runs {α:Type} (m:Pr α) (pre:List Node) (a:α):Prop:=∀rest toks,m (pre++rest,toks)=some (some (a,(rest,toks)))
section
variable {α β:Type}
theorem Pass.bind {x:Pr α} {f:α→Pr β} {p q:List Node} (hx:Pass x p) (hf:∀a,Pass (f a) q):Pass (x >>= f) (p++q):=by
 intro rest toks
 rw[Pr.bind_eq,List.append_assoc]
 unfold Pr.bind
 rcases hx (q++rest) toks with h|⟨a,toks',h⟩<;>rw[h]
 ·exact .inl rfl
 ·exact hf a rest toks'
theorem Runs.bind {x:Pr α} {f:α→Pr β} {p q:List Node} {a:α} (hx:Runs x p a) (hf:Pass (f a) q):Pass (x >>= f) (p++q):=by
 intro rest toks
 rw[Pr.bind_eq,List.append_assoc]
 unfold Pr.bind
 rw[hx (q++rest) toks]
 exact hf rest toks
theorem pass_pure (a:α):Pass (pure a:Pr α) []:=fun rest toks=>.inr ⟨a,toks,rfl⟩
theorem pass_fit {b:Bool} {f:Unit→Pr β} {q:List Node} (h:b=true) (hf:Pass (f ()) q):Pass (fit b >>= f) q:=by
 have:Runs (fit b) [] ():=fun rest toks=>by subst h;rfl
 exact this.bind hf
theorem pass_put0 (l:List Bytes):Pass (put l) []:=fun rest toks=>by
 unfold put
 split
 ·exact .inr ⟨(),_,rfl⟩
 ·exact .inl rfl
theorem pass_put {l:List Bytes} {f:Unit→Pr β} {q:List Node} (hf:Pass (f ()) q):Pass (put l >>= f) q:=(pass_put0 l).bind (fun _=>hf)
theorem pass_kind {f:Int→Pr β} {n:Node} {q:List Node} (hf:Pass (f n.kind) (n::q)):Pass (nkind >>= f) (n::q):=fun rest toks=>by
 rw[Pr.bind_eq]
 exact hf rest toks
theorem runs_next (n:Node) (t u v:Bool) (hk:0≤n.kids) (ht:t=true∨n.text=[]) (hu:u=true∨n.int=0) (hv:v=true∨n.bits=0):Runs (nnext t u v) [n] n:=fun rest toks=>by
 unfold nnext
 show(if _ then _ else _)=_
 rw[if_pos]
 ·rfl
 ·simp only[Bool.and_eq_true,Bool.or_eq_true,decide_eq_true_eq,beq_iff_eq]
  exact⟨⟨⟨hk,ht⟩,hu⟩,hv⟩
theorem pass_next {t u v:Bool} {f:Node→Pr β} {n:Node} {q:List Node} (hk:0≤n.kids) (ht:t=true∨n.text=[]) (hu:u=true∨n.int=0) (hv:v=true∨n.bits=0) (hf:Pass (f n) q):Pass (nnext t u v >>= f) (n::q) :=
 (runs_next n t u v hk ht hu hv).bind (p:=[n]) hf
theorem runs_name {s:Bytes} (h:okName s=true):Runs (nameP s) [] s:=fun rest toks=>by
 unfold nameP
 rw[Pr.bind_eq]
 unfold Pr.bind fit
 rw[h];rfl
theorem pass_name {s:Bytes} {f:Bytes→Pr β} {q:List Node} (h:okName s=true) (hf:Pass (f s) q):Pass (nameP s >>= f) q:=(runs_name h).bind hf
theorem runs_named (n:Node) (kind kids:Int) (h1:n.kind=kind) (h2:n.kids=kids) (h0:0≤kids) (hn:namedN n):Runs (namedP kind kids) [n] n.text:=fun rest toks=>by
 have hr:=runs_next n true false false (by omega) (.inl rfl) (.inr hn.2.1) (.inr hn.2.2) rest toks
 have e1:nkind ([n]++rest,toks)=some (some (n.kind,([n]++rest,toks))):=rfl
 have e2:∀s:List Node × List Bytes,fit true s=some (some ((),s)):=fun s=>rfl
 unfold namedP
 simp only[Pr.bind_eq,Pr.bind,e1,h1,h2,beq_self_eq_true,e2,hr]
 exact runs_name hn.1 rest toks
theorem pass_named {f:Bytes→Pr β} {n:Node} {q:List Node} (kind kids:Int) (h1:n.kind=kind) (h2:n.kids=kids) (h0:0≤kids) (hn:namedN n) (hf:Pass (f n.text) q):Pass (namedP kind kids >>= f) (n::q) :=
 (runs_named n kind kids h1 h2 h0 hn).bind (p:=[n]) hf
theorem runs_bare (n:Node) (kind kids:Int) (h1:n.kind=kind) (h2:n.kids=kids) (h0:0≤kids) (hn:bareN n):Runs (bareP kind kids) [n] ():=fun rest toks=>by
 have hr:=runs_next n false false false (by omega) (.inr hn.1) (.inr hn.2.1) (.inr hn.2.2) rest toks
 have e1:nkind ([n]++rest,toks)=some (some (n.kind,([n]++rest,toks))):=rfl
 have e2:∀s:List Node × List Bytes,fit true s=some (some ((),s)):=fun s=>rfl
 unfold bareP
 simp only[Pr.bind_eq,Pr.bind,e1,h1,h2,beq_self_eq_true,e2,hr]
theorem pass_bare {f:Unit→Pr β} {n:Node} {q:List Node} (kind kids:Int) (h1:n.kind=kind) (h2:n.kids=kids) (h0:0≤kids) (hn:bareN n) (hf:Pass (f ()) q):Pass (bareP kind kids >>= f) (n::q) :=
 (runs_bare n kind kids h1 h2 h0 hn).bind (p:=[n]) hf
end
structure PassR (r:PRec):Prop where
 block:∀t,TB t→Pass r.block t.row
 statement:∀t,TSt t→Pass r.statement t.row
 choice:∀t,T9 t→Pass r.choice t.row
 loop:∀t:Tree,t.all Gm→(t.n.kind=10∨t.n.kind=11)→Pass r.loop t.row
 expr:∀t,TE t→Pass r.expr t.row
theorem rows_one (e:Tree):rows [e]=e.row:=by simp[rows]
theorem rows_two (e f:Tree):rows [e,f]=e.row++f.row:=by simp[rows]
theorem rows_three (e f g:Tree):rows [e,f,g]=e.row++(f.row++g.row):=by simp[rows]
theorem rows_four (e f g k:Tree):rows [e,f,g,k]=e.row++(f.row++(g.row++k.row)):=by simp[rows]
section
variable {r:PRec} (h:PassR r)
include h
theorem pass_rep {x:Pr Unit} {l:List Tree} (hx:∀t∈l,Pass x t.row):Pass (repP x l.length) (rows l):=by
 induction l with
 | nil=>exact pass_pure ()
 | cons t l ih=>exact(hx t (by simp)).bind fun _=>ih (fun u hu=>hx u (by simp[hu]))
theorem pe {t:Tree} {f:Unit→Pr Unit} {q:List Node} (ht:TE t) (hf:Pass (f ()) q):Pass (r.expr >>= f) (t.row++q):=(h.expr t ht).bind fun _=>hf
theorem pe_put {t:Tree} {l:List Bytes} (ht:TE t):Pass (r.expr >>= fun _=>put l) t.row:=by
 have:=pe (q:=[]) h ht (f:=fun _=>put l) (pass_put0 _)
 simpa using this
theorem kids_all {n:Node} {ks:List Tree} (ha:(Tree.mk n ks).all Gm) {e:Tree} (he:e∈ks):e.all Gm:=alls_mem ha.2 e he
theorem pBlock_p (t:Tree) (ht:TB t):Pass (qBlock r) t.row:=by
 obtain⟨n,ks⟩:=t
 obtain⟨ha,hk⟩:=ht
 replace hk:n.kind=5:=hk
 have hg:=ha.1.2
 simp only[gram,hk]at hg
 have hg:bareN n∧∀t∈ks,isS t:=hg
 unfold qBlock
 refine pass_kind (pass_fit (by simp[hk]) (pass_put (pass_next (by simp) (.inr hg.1.1) (.inr hg.1.2.1) (.inr hg.1.2.2) ?_)))
 have:Pass (repP r.statement ks.length) (rows ks):=pass_rep h fun u hu=>h.statement u ⟨kids_all h ha hu,hg.2 u hu⟩
 simpa using this.bind (q:=[]) (f:=fun _=>put [[125]]) fun _=>pass_put0 _
theorem pIndexed_p {e f:Tree} {q:List Node} {g:Unit→Pr Unit} (he:TE e) (hf:TE f) (hg:Pass (g ()) q):Pass (qIndexed r >>= g) (e.row++(f.row++q)):=by
 have:Pass (qIndexed r) (e.row++f.row):=by
  unfold qIndexed
  exact pe h he (pass_put (pe_put h hf))
 rw[←List.append_assoc]
 exact this.bind fun _=>hg
theorem pPair_p {e f:Tree} {w:Bytes} (he:TE e) (hf:TE f):Pass (qPair r w) (e.row++f.row):=by
 unfold qPair
 exact pass_put (pe h he (pass_put (pe_put h hf)))
theorem pChoice_p (t:Tree) (ht:T9 t):Pass (qChoice r) t.row:=by
 obtain⟨n,ks⟩:=t
 obtain⟨ha,hk⟩:=ht
 replace hk:n.kind=9:=hk
 have hg:=ha.1.2
 simp only[gram,hk]at hg
 have hg:bareN n∧((∃e b,ks=[e,b]∧isE e∧isB b)∨∃e b c,ks=[e,b,c]∧isE e∧isB b∧(isB c∨c.n.kind=9)):=hg
 obtain⟨hn,⟨e,b,rfl,h1,h2⟩|⟨e,b,c,rfl,h1,h2,h3⟩⟩:=hg
 ·unfold qChoice Tree.row
  refine pass_next (by simp) (.inr hn.1) (.inr hn.2.1) (.inr hn.2.2) (pass_fit (by simp) (pass_put ?_))
  rw[rows_two]
  refine pe h ⟨kids_all h ha (by simp),h1⟩ ?_
  have:=(h.block b ⟨kids_all h ha (by simp),h2⟩).bind (q:=[]) (f:=fun _=>(pure ():Pr Unit)) fun _=>pass_pure ()
  simpa using this
 ·unfold qChoice Tree.row
  refine pass_next (by simp) (.inr hn.1) (.inr hn.2.1) (.inr hn.2.2) (pass_fit (by simp) (pass_put ?_))
  rw[rows_three]
  refine pe h ⟨kids_all h ha (by simp),h1⟩ ?_
  refine(h.block b ⟨kids_all h ha (by simp),h2⟩).bind fun _=>?_
  rw[if_neg (by simp)]
  refine pass_put ?_
  have hca:=kids_all h ha (e:=c) (by simp)
  obtain⟨cn,cs⟩:=c
  unfold Tree.row
  refine pass_kind ?_
  show Pass (if (cn.kind==9)=true then r.choice else r.block) (Tree.mk cn cs).row
  rcases h3 with h3|h3
  ·have h3':cn.kind=5:=h3
   rw[if_neg (by simp[h3'])]
   exact h.block _ ⟨hca,h3⟩
  ·have h3':cn.kind=9:=h3
   rw[if_pos (by simp[h3'])]
   exact h.choice _ ⟨hca,h3⟩
theorem pLoop_p (t:Tree) (ha:t.all Gm) (hk:t.n.kind=10∨t.n.kind=11):Pass (qLoop r) t.row:=by
 obtain⟨n,ks⟩:=t
 have hg:=ha.1.2
 rcases hk with hk|hk
 ·replace hk:n.kind=10:=hk
  simp only[gram,hk]at hg
  have hg:(namedN n∨bareN n)∧∃e b,ks=[e,b]∧isE e∧isB b:=hg
  obtain⟨hn,e,b,rfl,h1,h2⟩:=hg
  have hp:n.int=0∧n.bits=0:=by rcases hn with hn|hn<;>exact hn.2
  unfold qLoop Tree.row
  refine pass_kind (pass_next (by simp) (.inl rfl) (.inr hp.1) (.inr hp.2) ?_)
  have fin:Pass (do put [[119,104,105,108,101]];r.expr;r.block) (rows [e,b]):=by
   rw[rows_two]
   exact pass_put (pe h ⟨kids_all h ha (by simp),h1⟩ (h.block b ⟨kids_all h ha (by simp),h2⟩))
  rw[if_pos (by simp[hk])]
  refine pass_fit (by simp) ?_
  by_cases hx:n.text=[]
  ·rw[if_neg (by simp[hx])]
   exact fin
  ·rw[if_pos (by simp[hx])]
   rcases hn with hn|hn
   ·exact pass_name hn.1 (pass_put fin)
   ·exact absurd hn.1 hx
 ·replace hk:n.kind=11:=hk
  simp only[gram,hk]at hg
  have hg:namedN n∧((∃e g b,ks=[e,g,b]∧isE e∧isE g∧isB b)∨∃l e g b,ks=[l,e,g,b]∧l.n.kind=12∧isE e∧isE g∧isB b):=hg
  obtain⟨hn,hg⟩:=hg
  have fin:∀e g b:Tree,TE e→TE g→TB b→Pass (do let s ←nameP n.text;put [[102,111,114],s,[105,110]];r.expr;put [[46,46]];r.expr;r.block) (e.row++(g.row++b.row)):=fun e g b h1 h2 h3 =>
   pass_name hn.1 (pass_put (pe h h1 (pass_put (pe h h2 (h.block b h3)))))
  unfold qLoop Tree.row
  refine pass_kind (pass_next (by simp) (.inl rfl) (.inr hn.2.1) (.inr hn.2.2) ?_)
  rw[if_neg (by simp[hk])]
  rcases hg with⟨e,g,b,rfl,h1,h2,h3⟩|⟨l,e,g,b,rfl,h0,h1,h2,h3⟩
  ·refine pass_fit (by simp) ?_
   rw[if_neg (by simp),rows_three]
   exact fin e g b ⟨kids_all h ha (by simp),h1⟩ ⟨kids_all h ha (by simp),h2⟩ ⟨kids_all h ha (by simp),h3⟩
  ·refine pass_fit (by simp) ?_
   rw[if_pos (by simp),rows_four]
   have hla:=kids_all h ha (e:=l) (by simp)
   obtain⟨ln,ls⟩:=l
   have h0:ln.kind=12:=h0
   have hlg:=hla.1.2
   simp only[gram,h0]at hlg
   have hlg:namedN ln∧ls=[]:=hlg
   obtain⟨hln,rfl⟩:=hlg
   have hrow:(Tree.mk ln []).row=[{ ln with kids:=((0:Nat):Int) }]:=by simp[Tree.row,rows]
   rw[hrow]
   exact pass_named 12 0 h0 rfl (by decide) hln (pass_put (fin e g b ⟨kids_all h ha (by simp),h1⟩ ⟨kids_all h ha (by simp),h2⟩ ⟨kids_all h ha (by simp),h3⟩))
theorem pStatement_p (t:Tree) (ht:TSt t):Pass (qStatement r) t.row:=by
 obtain⟨n,ks⟩:=t
 obtain⟨ha,hS⟩:=ht
 have hg:=ha.1.2
 have hS:6≤n.kind∧n.kind≤17∧n.kind≠12:=hS
 have hkk:n.kind=6∨n.kind=7∨n.kind=8∨n.kind=9∨n.kind=10∨n.kind=11∨n.kind=13∨n.kind=14∨n.kind=15∨n.kind=16∨n.kind=17:=by omega
 have one:oneE ks→∃e,ks=[e]∧TE e:=fun⟨e,h1,h2⟩=>⟨e,h1,kids_all h ha (by rw[h1];simp),h2⟩
 have hrow:(Tree.mk n ks).row={ n with kids:=(ks.length:Int) }::rows ks:=by simp[Tree.row]
 unfold qStatement
 rw[hrow]
 refine pass_kind ?_
 rcases hkk with hk|hk|hk|hk|hk|hk|hk|hk|hk|hk|hk
 ·simp only[gram,hk]at hg
  have hg:namedN n∧oneE ks:=hg
  obtain⟨e,rfl,he⟩:=one hg.2
  rw[if_pos (by simp[hk]),rows_one]
  exact pass_named 6 1 hk rfl (by decide) hg.1 (pass_put (pe_put h he))
 ·simp only[gram,hk]at hg
  have hg:namedN n∧oneE ks:=hg
  obtain⟨e,rfl,he⟩:=one hg.2
  rw[if_neg (by simp[hk]),if_pos (by simp[hk]),rows_one]
  exact pass_named 7 1 hk rfl (by decide) hg.1 (pass_put (pe_put h he))
 ·simp only[gram,hk]at hg
  have hg:bareN n∧∃e f g,ks=[e,f,g]∧isE e∧isE f∧isE g:=hg
  obtain⟨hn,e,f,g,rfl,h1,h2,h3⟩:=hg
  rw[if_neg (by simp[hk]),if_neg (by simp[hk]),if_pos (by simp[hk]),rows_three]
  exact pass_bare 8 3 hk rfl (by decide) hn (pIndexed_p h ⟨kids_all h ha (by simp),h1⟩ ⟨kids_all h ha (by simp),h2⟩ (pass_put (pe_put h ⟨kids_all h ha (by simp),h3⟩)))
 ·rw[if_neg (by simp[hk]),if_neg (by simp[hk]),if_neg (by simp[hk]),if_pos (by simp[hk]),←hrow]
  exact h.choice _ ⟨ha,hk⟩
 ·rw[if_neg (by simp[hk]),if_neg (by simp[hk]),if_neg (by simp[hk]),if_neg (by simp[hk]),if_pos (by simp[hk]),←hrow]
  exact h.loop _ ha (.inl hk)
 ·rw[if_neg (by simp[hk]),if_neg (by simp[hk]),if_neg (by simp[hk]),if_neg (by simp[hk]),if_pos (by simp[hk]),←hrow]
  exact h.loop _ ha (.inr hk)
 ·simp only[gram,hk]at hg
  have hg:(namedN n∨bareN n)∧ks=[]:=hg
  obtain⟨hn,rfl⟩:=hg
  have hp:n.int=0∧n.bits=0:=by rcases hn with hn|hn<;>exact hn.2
  rw[if_neg (by simp[hk]),if_neg (by simp[hk]),if_neg (by simp[hk]),if_neg (by simp[hk]),if_neg (by simp[hk]),if_pos (by simp[hk])]
  refine pass_next (by simp) (.inl rfl) (.inr hp.1) (.inr hp.2) (pass_fit (by simp) (pass_put ?_))
  by_cases hx:n.text=[]
  ·rw[if_neg (by simp[hx])]
   exact pass_put0 _
  ·rw[if_pos (by simp[hx])]
   rcases hn with hn|hn
   ·exact pass_name hn.1 (pass_put (pass_put0 _))
   ·exact absurd hn.1 hx
 ·simp only[gram,hk]at hg
  have hg:(namedN n∨bareN n)∧ks=[]:=hg
  obtain⟨hn,rfl⟩:=hg
  have hp:n.int=0∧n.bits=0:=by rcases hn with hn|hn<;>exact hn.2
  rw[if_neg (by simp[hk]),if_neg (by simp[hk]),if_neg (by simp[hk]),if_neg (by simp[hk]),if_neg (by simp[hk]),if_pos (by simp[hk])]
  refine pass_next (by simp) (.inl rfl) (.inr hp.1) (.inr hp.2) (pass_fit (by simp) (pass_put ?_))
  by_cases hx:n.text=[]
  ·rw[if_neg (by simp[hx])]
   exact pass_put0 _
  ·rw[if_pos (by simp[hx])]
   rcases hn with hn|hn
   ·exact pass_name hn.1 (pass_put (pass_put0 _))
   ·exact absurd hn.1 hx
 ·simp only[gram,hk]at hg
  have hg:bareN n∧(ks=[]∨oneE ks):=hg
  obtain⟨hn,hg⟩:=hg
  rw[if_neg (by simp[hk]),if_neg (by simp[hk]),if_neg (by simp[hk]),if_neg (by simp[hk]),if_neg (by simp[hk]),if_neg (by simp[hk]),if_pos (by simp[hk])]
  rcases hg with rfl|hg
  ·refine pass_next (by simp) (.inr hn.1) (.inr hn.2.1) (.inr hn.2.2) (pass_fit (by simp) (pass_put ?_))
   rw[if_neg (by simp)]
   exact pass_put0 _
  ·obtain⟨e,rfl,he⟩:=one hg
   refine pass_next (by simp) (.inr hn.1) (.inr hn.2.1) (.inr hn.2.2) (pass_fit (by simp) (pass_put ?_))
   rw[if_pos (by simp),rows_one]
   exact pe_put h he
 ·simp only[gram,hk]at hg
  have hg:bareN n∧oneE ks:=hg
  obtain⟨e,rfl,he⟩:=one hg.2
  rw[if_neg (by simp[hk]),if_neg (by simp[hk]),if_neg (by simp[hk]),if_neg (by simp[hk]),if_neg (by simp[hk]),if_neg (by simp[hk]),if_neg (by simp[hk]),if_pos (by simp[hk]),rows_one]
  exact pass_bare 16 1 hk rfl (by decide) hg.1 (pass_put (pe_put h he))
 ·simp only[gram,hk]at hg
  have hg:bareN n∧oneE ks:=hg
  obtain⟨e,rfl,he⟩:=one hg.2
  rw[if_neg (by simp[hk]),if_neg (by simp[hk]),if_neg (by simp[hk]),if_neg (by simp[hk]),if_neg (by simp[hk]),if_neg (by simp[hk]),if_neg (by simp[hk]),if_neg (by simp[hk]),rows_one]
  exact pass_bare 17 1 hk rfl (by decide) hg.1 (pe_put h he)
theorem pArgs_p:∀l:List Tree,(∀t∈l,TE t)→Pass (argsP r l.length) (rows l)
 | [],_=>pass_pure ()
 | t::l,hl=>pass_put (pe h (hl t (by simp)) (pArgs_p l fun u hu=>hl u (by simp[hu])))
theorem pExpr_p (t:Tree) (ht:TE t):Pass (qExpr r) t.row:=by
 obtain⟨n,ks⟩:=t
 obtain⟨ha,hS⟩:=ht
 have hg:=ha.1.2
 have hS:18≤n.kind∧n.kind≤31:=hS
 have hkk:n.kind=18∨n.kind=19∨n.kind=20∨n.kind=21∨n.kind=22∨n.kind=23∨n.kind=24∨n.kind=25∨n.kind=26∨n.kind=27∨n.kind=28∨n.kind=29∨n.kind=30∨n.kind=31:=by omega
 have one:oneE ks→∃e,ks=[e]∧TE e:=fun⟨e,h1,h2⟩=>⟨e,h1,kids_all h ha (by rw[h1];simp),h2⟩
 have two:twoE ks→∃e f,ks=[e,f]∧TE e∧TE f:=fun⟨e,f,h1,h2,h3⟩=>⟨e,f,h1,⟨kids_all h ha (by rw[h1];simp),h2⟩,kids_all h ha (by rw[h1];simp),h3⟩
 have hrow:(Tree.mk n ks).row={ n with kids:=(ks.length:Int) }::rows ks:=by simp[Tree.row]
 unfold qExpr
 rw[hrow]
 refine pass_kind ?_
 simp only[]
 rcases hkk with hk|hk|hk|hk|hk|hk|hk|hk|hk|hk|hk|hk|hk|hk
 all_goals simp only[gram,hk]at hg
 ·have hg:bareN n∧twoE ks:=hg
  obtain⟨e,f,rfl,he,hf⟩:=two hg.2
  rw[if_pos (by simp[hk]),rows_two,hk]
  exact pass_bare 18 2 rfl rfl (by decide) hg.1 (pPair_p h he hf)
 ·have hg:bareN n∧twoE ks:=hg
  obtain⟨e,f,rfl,he,hf⟩:=two hg.2
  rw[if_pos (by simp[hk]),rows_two,hk]
  exact pass_bare 19 2 rfl rfl (by decide) hg.1 (pPair_p h he hf)
 ·have hg:bareN n∧oneE ks:=hg
  obtain⟨e,rfl,he⟩:=one hg.2
  rw[if_neg (by simp[hk]),if_pos (by simp[hk]),rows_one,hk]
  exact pass_bare 20 1 rfl rfl (by decide) hg.1 (pass_put (pe_put h he))
 ·have hg:plainN n∧binaries.contains n.text=true∧twoE ks:=hg
  obtain⟨e,f,rfl,he,hf⟩:=two hg.2.2
  rw[if_neg (by simp[hk]),if_neg (by simp[hk]),if_pos (by simp[hk]),rows_two]
  exact pass_next (by simp) (.inl rfl) (.inr hg.1.1) (.inr hg.1.2) (pass_fit (by rw[Bool.and_eq_true];exact⟨rfl,hg.2.1⟩) (pPair_p h he hf))
 ·have hg:plainN n∧(n.text=[45]∨n.text=[126])∧oneE ks:=hg
  obtain⟨e,rfl,he⟩:=one hg.2.2
  rw[if_neg (by simp[hk]),if_neg (by simp[hk]),if_neg (by simp[hk]),if_pos (by simp[hk]),rows_one]
  exact pass_next (by simp) (.inl rfl) (.inr hg.1.1) (.inr hg.1.2) (pass_fit (by simp[hg.2.1]) (pass_put (pe_put h he)))
 ·have hg:namedN n∧∀t∈ks,isE t:=hg
  rw[if_neg (by simp[hk]),if_neg (by simp[hk]),if_neg (by simp[hk]),if_neg (by simp[hk]),if_pos (by simp[hk])]
  refine pass_next (by simp) (.inl rfl) (.inr hg.1.2.1) (.inr hg.1.2.2) (pass_name hg.1.1 (pass_put ?_))
  cases ks with
  | nil=>exact pass_put0 _
  | cons e l =>
   have hl:=pArgs_p h l (fun u hu=>⟨kids_all h ha (by simp[hu]),hg.2 u (by simp[hu])⟩)
   have he:TE e:=⟨kids_all h ha (by simp),hg.2 e (by simp)⟩
   have hp:Pass (do r.expr;argsP r l.length) (rows (e::l)):=pe h he hl
   simpa using hp.bind (q:=[]) (f:=fun _=>put [[41]]) fun _=>pass_put0 _
 ·have hg:bareN n∧twoE ks:=hg
  obtain⟨e,f,rfl,he,hf⟩:=two hg.2
  rw[if_neg (by simp[hk]),if_neg (by simp[hk]),if_neg (by simp[hk]),if_neg (by simp[hk]),if_neg (by simp[hk]),if_pos (by simp[hk]),rows_two,hk]
  refine pass_bare 24 2 rfl rfl (by decide) hg.1 ?_
  unfold qIndexed
  exact pe h he (pass_put (pe_put h hf))
 ·have hg:namedN n∧ks=[]:=hg
  obtain⟨hn,rfl⟩:=hg
  rw[if_neg (by simp[hk]),if_neg (by simp[hk]),if_neg (by simp[hk]),if_neg (by simp[hk]),if_neg (by simp[hk]),if_neg (by simp[hk]),if_pos (by simp[hk]),hk]
  exact pass_named 25 0 rfl rfl (by decide) hn (pass_put0 _)
 ·have hg:n.text=[]∧n.bits=0∧0≤n.int∧n.int≤9223372036854775807∧ks=[]:=hg
  obtain⟨h1,h2,h3,h4,rfl⟩:=hg
  rw[if_neg (by simp[hk]),if_neg (by simp[hk]),if_neg (by simp[hk]),if_neg (by simp[hk]),if_neg (by simp[hk]),if_neg (by simp[hk]),if_neg (by simp[hk]),if_pos (by simp[hk])]
  exact pass_next (by simp) (.inr h1) (.inl rfl) (.inr h2) (pass_fit (by simp[h3]) (pass_put0 _))
 ·have hg:n.text=[]∧n.int=0∧((0≤n.bits∧n.bits≤bInf)∨n.bits=bNaN)∧ks=[]:=hg
  obtain⟨h1,h2,h3,rfl⟩:=hg
  rw[if_neg (by simp[hk]),if_neg (by simp[hk]),if_neg (by simp[hk]),if_neg (by simp[hk]),if_neg (by simp[hk]),if_neg (by simp[hk]),if_neg (by simp[hk]),if_neg (by simp[hk]),if_pos (by simp[hk])]
  exact pass_next (by simp) (.inr h1) (.inr h2) (.inl rfl) (pass_fit (by rcases h3 with h3|h3<;>simp[h3]) (pass_put0 _))
 ·have hg:plainN n∧ks=[]:=hg
  obtain⟨hn,rfl⟩:=hg
  rw[if_neg (by simp[hk]),if_neg (by simp[hk]),if_neg (by simp[hk]),if_neg (by simp[hk]),if_neg (by simp[hk]),if_neg (by simp[hk]),if_neg (by simp[hk]),if_neg (by simp[hk]),if_neg (by simp[hk]),if_pos (by simp[hk])]
  exact pass_next (by simp) (.inl rfl) (.inr hn.1) (.inr hn.2) (pass_fit (by simp) (pass_put0 _))
 ·have hg:bareN n∧ks=[]:=hg
  obtain⟨hn,rfl⟩:=hg
  rw[if_neg (by simp[hk]),if_neg (by simp[hk]),if_neg (by simp[hk]),if_neg (by simp[hk]),if_neg (by simp[hk]),if_neg (by simp[hk]),if_neg (by simp[hk]),if_neg (by simp[hk]),if_neg (by simp[hk]),if_neg (by simp[hk]),if_pos (by simp[hk]),hk]
  exact pass_bare 29 0 rfl rfl (by decide) hn (pass_put0 _)
 ·have hg:bareN n∧ks=[]:=hg
  obtain⟨hn,rfl⟩:=hg
  rw[if_neg (by simp[hk]),if_neg (by simp[hk]),if_neg (by simp[hk]),if_neg (by simp[hk]),if_neg (by simp[hk]),if_neg (by simp[hk]),if_neg (by simp[hk]),if_neg (by simp[hk]),if_neg (by simp[hk]),if_neg (by simp[hk]),if_neg (by simp[hk]),if_pos (by simp[hk]),hk]
  exact pass_bare 30 0 rfl rfl (by decide) hn (pass_put0 _)
 ·have hg:bareN n∧ks=[]:=hg
  obtain⟨hn,rfl⟩:=hg
  rw[if_neg (by simp[hk]),if_neg (by simp[hk]),if_neg (by simp[hk]),if_neg (by simp[hk]),if_neg (by simp[hk]),if_neg (by simp[hk]),if_neg (by simp[hk]),if_neg (by simp[hk]),if_neg (by simp[hk]),if_neg (by simp[hk]),if_neg (by simp[hk]),if_neg (by simp[hk])]
  exact pass_bare 31 0 hk rfl (by decide) hn (pass_put0 _)
theorem pstep_p:PassR (pstep r) where
 block:=pBlock_p h
 statement:=pStatement_p h
 choice:=pChoice_p h
 loop:=pLoop_p h
 expr:=pExpr_p h
end
theorem precs_p:∀n,PassR (precs n)
 | 0=>⟨fun _ _ _ _=>.inl rfl,fun _ _ _ _=>.inl rfl,fun _ _ _ _=>.inl rfl,fun _ _ _ _ _=>.inl rfl,fun _ _ _ _=>.inl rfl⟩
 | n+1=>pstep_p (precs_p n)
section
variable {r:PRec} (h:PassR r)
theorem param_row {t:Tree} (ht:t.all Gm∧t.n.kind=4):∃n:Node,t.row=[{ n with kids:=((0:Nat):Int) }]∧n.kind=4∧namedN n:=by
 obtain⟨n,ks⟩:=t
 obtain⟨ha,hk⟩:=ht
 replace hk:n.kind=4:=hk
 have hg:=ha.1.2
 simp only[gram,hk]at hg
 have hg:namedN n∧ks=[]:=hg
 obtain⟨hn,rfl⟩:=hg
 exact⟨n,by simp[Tree.row,rows],hk,hn⟩
theorem pParams_p:∀l:List Tree,(∀t∈l,t.all Gm∧t.n.kind=4)→Pass (qParams l.length) (rows l)
 | [],_=>pass_pure ()
 | t::l,hl=>by
  obtain⟨n,h1,h2,h3⟩:=param_row (hl t (by simp))
  have:rows (t::l)={ n with kids:=((0:Nat):Int) }::rows l:=by simp[rows,h1]
  rw[this]
  exact pass_put (pass_named 4 0 h2 rfl (by decide) h3 (pass_put (pParams_p l fun u hu=>hl u (by simp[hu]))))
include h
theorem pTop_p (t:Tree) (ht:t.all Gm∧(t.n.kind=2∨t.n.kind=3)):Pass (qTop r) t.row:=by
 obtain⟨n,ks⟩:=t
 obtain⟨ha,hk⟩:=ht
 have hg:=ha.1.2
 have hrow:(Tree.mk n ks).row={ n with kids:=(ks.length:Int) }::rows ks:=by simp[Tree.row]
 unfold qTop
 rw[hrow]
 refine pass_kind ?_
 rcases hk with hk|hk
 ·replace hk:n.kind=2:=hk
  simp only[gram,hk]at hg
  have hg:namedN n∧ks=[]:=hg
  obtain⟨hn,rfl⟩:=hg
  rw[if_pos (by simp[hk])]
  exact pass_named 2 0 hk rfl (by decide) hn (pass_put0 _)
 ·replace hk:n.kind=3:=hk
  simp only[gram,hk]at hg
  have hg:namedN n∧∃ps b,ks=ps++[b]∧(∀t∈ps,t.n.kind=4)∧isB b:=hg
  obtain⟨hn,ps,b,rfl,h1,h2⟩:=hg
  rw[if_neg (by simp[hk])]
  unfold qFunction
  refine pass_kind (pass_fit (by simp[hk]) (pass_next (by simp;omega) (.inl rfl) (.inr hn.2.1) (.inr hn.2.2) (pass_fit (by simp) (pass_name hn.1 (pass_put ?_)))))
  have hps:∀t∈ps,t.all Gm∧t.n.kind=4:=fun t ht=>⟨kids_all (precs_p 0) ha (by simp[ht]),h1 t ht⟩
  have hb:=h.block b ⟨kids_all (precs_p 0) ha (by simp),h2⟩
  have fin:Pass (do put [[41]];r.block) b.row:=pass_put hb
  have hrows:rows (ps++[b])=rows ps++b.row:=by
   have:∀l:List Tree,rows (l++[b])=rows l++b.row:=fun l=>by
    induction l with
    | nil=>simp[rows]
    | cons a l ih=>simp[rows,ih]
   exact this ps
  rw[hrows]
  have hlen:((((ps++[b]).length:Nat):Int)-1).toNat=ps.length:=by simp
  show Pass ((match ((((ps++[b]).length:Nat):Int)-1).toNat with
   | 0=>pure ()
   | m+1=>do
    let s ←namedP 4 0
    put [s]
    qParams m) >>= fun _=>do put [[41]];r.block) _
  rw[hlen]
  refine Pass.bind ?_ fun _=>fin
  cases ps with
  | nil=>exact pass_pure ()
  | cons t l =>
   obtain⟨m,g1,g2,g3⟩:=param_row (hps t (by simp))
   have:rows (t::l)={ m with kids:=((0:Nat):Int) }::rows l:=by simp[rows,g1]
   rw[this]
   exact pass_named 4 0 g2 rfl (by decide) g3 (pass_put (pParams_p l fun u hu=>hps u (by simp[hu])))
theorem pProgram_p (t:Tree) (ha:t.all Gm) (hk:t.n.kind=1):Pass (qProgram r) t.row:=by
 obtain⟨n,ks⟩:=t
 replace hk:n.kind=1:=hk
 have hg:=ha.1.2
 simp only[gram,hk]at hg
 have hg:bareN n∧∀t∈ks,t.n.kind=2∨t.n.kind=3:=hg
 have hrow:(Tree.mk n ks).row={ n with kids:=(ks.length:Int) }::rows ks:=by simp[Tree.row]
 unfold qProgram
 rw[hrow]
 refine pass_kind (pass_fit (by simp[hk]) (pass_next (by simp) (.inr hg.1.1) (.inr hg.1.2.1) (.inr hg.1.2.2) ?_))
 have:Pass (repP (qTop r) ks.length) (rows ks):=pass_rep h fun u hu=>pTop_p h u ⟨kids_all h ha hu,hg.2 u hu⟩
 simpa using this
end
theorem print_some (t:Tree) (ha:t.all Gm) (hk:t.n.kind=1) (hc:cost t.row≤1099511627000):print t.row≠none:=by
 have h1:=print_eq t.row hc
 have h2:=pProgram_p (precs_p (pfuel t.row)) t ha hk [] []
 rw[List.append_nil]at h2
 intro hn
 rw[hn]at h1
 unfold printWith at h1
 rcases h2 with h2|⟨a,toks,h2⟩
 ·rw[h2]at h1;cases h1
 ·rw[h2]at h1;simp at h1
structure NumN (n:Node):Prop where
 text:n.text.length≤65536
 intL:0≤n.int
 intH:n.int≤9223372036854775807
 bitsL:0≤n.bits
 bitsH:n.bits≤9223372036854775807
theorem gram_range {n:Node} {ks:List Tree} (h:gram n ks):1≤n.kind∧n.kind≤31:=by
 by_cases hr:1≤n.kind∧n.kind≤31
 ·exact hr
 ·exfalso
  unfold gram at h
  repeat rw[if_neg (by omega)]at h
  exact h
theorem gram_kinds {n:Node} {ks:List Tree} (h:gram n ks):n.kind=1∨n.kind=2∨n.kind=3∨n.kind=4∨n.kind=5∨n.kind=6∨n.kind=7∨n.kind=8∨n.kind=9∨n.kind=10∨n.kind=11∨n.kind=12∨n.kind=13∨n.kind=14∨n.kind=15∨n.kind=16∨n.kind=17∨n.kind=18∨n.kind=19∨n.kind=20∨n.kind=21∨n.kind=22∨n.kind=23∨n.kind=24∨n.kind=25∨n.kind=26∨n.kind=27∨n.kind=28∨n.kind=29∨n.kind=30∨n.kind=31:=by
 have:=gram_range h
 omega
theorem gm_num {n:Node} {ks:List Tree} (h:Gm n ks):NumN n:=by
 obtain⟨h0,h⟩:=h
 have bare:bareN n→NumN n:=fun⟨_,h2,h3⟩=>⟨h0,by omega,by omega,by omega,by omega⟩
 have named:namedN n→NumN n:=fun⟨_,h2,h3⟩=>⟨h0,by omega,by omega,by omega,by omega⟩
 have plain:plainN n→NumN n:=fun⟨h2,h3⟩=>⟨h0,by omega,by omega,by omega,by omega⟩
 have hkk:=gram_kinds h
 unfold gram at h
 rcases hkk with hk|hk|hk|hk|hk|hk|hk|hk|hk|hk|hk|hk|hk|hk|hk|hk|hk|hk|hk|hk|hk|hk|hk|hk|hk|hk|hk|hk|hk|hk|hk
 all_goals (repeat rw[if_neg (by omega)]at h)
 all_goals rw[if_pos (by omega)]at h
 all_goals first
  | exact bare h.1
  | exact named h.1
  | exact plain h.1
  | exact h.elim
  | exact h.1.elim named bare
  | skip
 ·exact⟨h0,h.2.2.1,h.2.2.2.1,by rw[h.2.1];decide,by rw[h.2.1];decide⟩
 ·obtain⟨_,h2,h3,_⟩:=h
  unfold bInf bNaN at h3
  refine⟨h0,by omega,by omega,?_,?_⟩<;>(rcases h3 with h3|h3<;>omega)
theorem num_cost {n:Node} (h:NumN n):ncost n≤328200:=by
 have h1:=decI_len n.int (by rw[show(10:Nat) ^ 20=100000000000000000000 by decide];have:=h.intL;have:=h.intH;omega)
 have h2:=floatT_len n.bits.toNat
 have:=h.text
 unfold ncost;omega
mutual
theorem row_num:∀t:Tree,t.all Gm→∀n∈t.row,NumN n∧0≤n.kids∧n.kids≤t.size
 | .mk n ks,ha,m,hm=>by
  unfold Tree.row at hm
  rcases List.mem_cons.1 hm with rfl|hm
  ·have:=gm_num ha.1
   have hl:ks.length≤sizes ks:=by
    have:∀l:List Tree,l.length≤sizes l:=fun l=>by
     induction l with
     | nil=>simp
     | cons a l ih=>have:=size_pos a;simp[sizes];omega
    exact this ks
   exact⟨⟨this.text,this.intL,this.intH,this.bitsL,this.bitsH⟩,by simp,by simp only[Tree.size];omega⟩
  ·obtain⟨h1,h2,h3⟩:=rows_num ks ha.2 m hm
   exact⟨h1,h2,by simp only[Tree.size];omega⟩
theorem rows_num:∀l:List Tree,alls Gm l→∀n∈rows l,NumN n∧0≤n.kids∧n.kids≤sizes l
 | [],_,m,hm=>by cases hm
 | t::l,ha,m,hm=>by
  unfold rows at hm
  rcases List.mem_append.1 hm with hm|hm
  ·obtain⟨h1,h2,h3⟩:=row_num t ha.1 m hm
   exact⟨h1,h2,by simp only[sizes];omega⟩
  ·obtain⟨h1,h2,h3⟩:=rows_num l ha.2 m hm
   exact⟨h1,h2,by simp only[sizes];omega⟩
end
theorem cost_le (l:List Node) (h:∀n∈l,NumN n):cost l≤l.length*328200:=by
 induction l with
 | nil=>simp[cost]
 | cons n l ih =>
  have h1:=num_cost (h n (by simp))
  have h2:=ih (fun m hm=>h m (by simp[hm]))
  unfold cost at h2 ⊢
  simp only[List.map_cons,List.sum_cons,List.length_cons]
  omega
theorem gm_parts {n:Node} {ks:List Tree} (h:Gm n ks):n.kind≤31∧0≤n.kind∧(n.kind=11→3≤ks.length)∧(n.kind=10→ks.length=2)∧(n.kind=3→ks≠[]):=by
 obtain⟨_,h⟩:=h
 have hr:=gram_range h
 have e11:n.kind=11→3≤ks.length:=fun hk=>by
  unfold gram at h
  repeat rw[if_neg (by omega)]at h
  rw[if_pos (by omega)]at h
  rcases h.2 with⟨a,b,c,e,_⟩|⟨a,b,c,d,e,_⟩<;>rw[e]<;>simp
 have e10:n.kind=10→ks.length=2:=fun hk=>by
  unfold gram at h
  repeat rw[if_neg (by omega)]at h
  rw[if_pos (by omega)]at h
  obtain⟨a,b,e,_⟩:=h.2
  rw[e];simp
 have e3:n.kind=3→ks≠[]:=fun hk=>by
  unfold gram at h
  repeat rw[if_neg (by omega)]at h
  rw[if_pos (by omega)]at h
  obtain⟨a,b,e,_⟩:=h.2
  rw[e];simp
 exact⟨hr.2,by omega,e11,e10,e3⟩
theorem gm_kid {n:Node} {ks:List Tree} (h:Gm n ks) (hk:3≤n.kind):∀t∈ks,4≤t.n.kind:=by
 obtain⟨_,h⟩:=h
 have e1:∀t:Tree,isE t→4≤t.n.kind:=fun t ht=>by have:=ht.1;omega
 have e2:∀t:Tree,isB t→4≤t.n.kind:=fun t ht=>by have:t.n.kind=5:=ht;omega
 have e3:∀t:Tree,isS t→4≤t.n.kind:=fun t ht=>by have:=ht.1;omega
 have one:oneE ks→∀t∈ks,4≤t.n.kind:=fun⟨e,h1,h2⟩ t ht=>by rw[h1]at ht;simp at ht;subst ht;exact e1 _ h2
 have two:twoE ks→∀t∈ks,4≤t.n.kind:=fun⟨e,f,h1,h2,h3⟩ t ht=>by rw[h1]at ht;simp at ht;rcases ht with rfl|rfl<;>apply e1<;>assumption
 have nil:ks=[]→∀t∈ks,4≤t.n.kind:=fun h1 t ht=>by rw[h1]at ht;cases ht
 have k9:((∃e b,ks=[e,b]∧isE e∧isB b)∨∃e b c,ks=[e,b,c]∧isE e∧isB b∧(isB c∨c.n.kind=9))→∀t∈ks,4≤t.n.kind:=by
  rintro(⟨e,b,rfl,h1,h2⟩|⟨e,b,c,rfl,h1,h2,h3⟩) t ht
  ·simp at ht
   rcases ht with rfl|rfl
   ·exact e1 _ h1
   ·exact e2 _ h2
  ·simp at ht
   rcases ht with rfl|rfl|rfl
   ·exact e1 _ h1
   ·exact e2 _ h2
   ·rcases h3 with h3|h3
    ·exact e2 _ h3
    ·omega
 have k11:((∃e g b,ks=[e,g,b]∧isE e∧isE g∧isB b)∨∃l e g b,ks=[l,e,g,b]∧l.n.kind=12∧isE e∧isE g∧isB b)→∀t∈ks,4≤t.n.kind:=by
  rintro(⟨e,g,b,rfl,h1,h2,h3⟩|⟨l,e,g,b,rfl,h0,h1,h2,h3⟩) t ht
  ·simp at ht
   rcases ht with rfl|rfl|rfl
   ·exact e1 _ h1
   ·exact e1 _ h2
   ·exact e2 _ h3
  ·simp at ht
   rcases ht with rfl|rfl|rfl|rfl
   ·omega
   ·exact e1 _ h1
   ·exact e1 _ h2
   ·exact e2 _ h3
 have hkk:=gram_kinds h
 unfold gram at h
 rcases hkk with hk|hk|hk|hk|hk|hk|hk|hk|hk|hk|hk|hk|hk|hk|hk|hk|hk|hk|hk|hk|hk|hk|hk|hk|hk|hk|hk|hk|hk|hk|hk
 all_goals try (exfalso;omega;done)
 all_goals (repeat rw[if_neg (by omega)]at h)
 all_goals rw[if_pos (by omega)]at h
 all_goals first
  | exact k9 h.2
  | exact k11 h.2
  | exact nil h.2
  | exact nil h.2.2.2.2
  | exact nil h.2.2.2
  | exact one h.2
  | exact two h.2
  | exact one h.2.2
  | exact two h.2.2
  | (intro t ht;exact e3 t (h.2 t ht))
  | (intro t ht;exact e1 t (h.2 t ht))
  | (intro t ht;rcases h.2 with h2|h2;exact nil h2 t ht;exact one h2 t ht)
  | (obtain⟨ps,b,rfl,h1,h2⟩:=h.2;intro t ht;rcases List.mem_append.1 ht with ht|ht;have:=h1 t ht;omega;(obtain rfl:t=b:=by simpa using ht);exact e2 _ h2)
  | (obtain⟨e,f,g,rfl,h1,h2,h3⟩:=h.2;intro t ht;simp at ht;rcases ht with rfl|rfl|rfl<;>apply e1<;>assumption)
  | (obtain⟨e,b,rfl,h1,h2⟩:=h.2;intro t ht;simp at ht;rcases ht with rfl|rfl;exact e1 _ h1;exact e2 _ h2)
def meets (n:Node):Bool:=n.kind==21 && !(n.text==[38]||n.text==[124]||n.text==[94]||n.text==[60,60]||n.text==[62,62])
def sites (l:List Node):List Int:=((l.filter meets).map (·.at')).mergeSort (fun a b=>decide (a≤b))
def isFn (name:Bytes) (n:Node):Bool:=n.kind==3&&n.text==name
def regs (T:Tree) (name:Bytes):Nat :=
 if (checkTree T true).code==0 then match T.ks.find? (fun t=>isFn name t.n) with
  | some t=>registers t
  | none=>0
 else 0
def treeOf (s:Bytes):Option Tree :=
 match pProgram (lexAll s).2 (fuel s) (annot (lexAll s).1 0) with
 | some (.ok (T,_))=>some T
 | _=>none
theorem loadM_tree {s:Bytes} {T:Tree} (h:treeOf s=some T) (hc:checkTree T false=⟨0,0⟩):loadM s=(T.row,⟨0,0⟩)∧T.all Gm∧T.n.kind=1:=by
 unfold treeOf at h
 unfold loadM
 cases hp:pProgram (lexAll s).2 (fuel s) (annot (lexAll s).1 0) with
 | none=>rw[hp]at h;cases h
 | some r =>
  cases r with
  | error f=>rw[hp]at h;cases h
  | ok p =>
   obtain⟨T',ts⟩:=p
   rw[hp]at h
   obtain rfl:T'=T:=by injection h
   refine⟨?_,parsed_gram s _ T' ts hp⟩
   simp only[hc]
   rfl
def repB (n:Nat) (b:Bytes):Bytes:=(List.replicate n b).flatten
theorem repB_succ (n:Nat) (b:Bytes):repB (n+1) b=repB n b++b:=by
 unfold repB
 rw[List.replicate_succ',List.flatten_append];simp
theorem repB_len (n:Nat) (b:Bytes):(repB n b).length=n*b.length:=by
 induction n with
 | zero=>simp[repB]
 | succ n ih=>rw[repB_succ,List.length_append,ih,Nat.succ_mul]
end Ck
end
