/- A part of the proof. -/
import Derived.Test.YtoomapkcoibmhaaGreatDoorQ3
set_option maxRecDepth 100000
set_option maxHeartbeats 12800000
set_option linter.all false
section
namespace Ck
theorem aal (F:dS) (t:Tok) (o:Int) (r:TS):look F ((t,o)::r)=if opens t&&decide (64≤o)then some (.error ⟨71,t.at'⟩)else some (.ok (t,(t,o)::r)):=by
 unfold look aW;simp only;cases h:opens t&&decide (64≤o)<;>simp
theorem aee (F:dS) (k:Int) (l:List Bytes) (t:Tok) (o:Int) (r:TS):sees F k l ((t,o)::r)=if opens t&&decide (64≤o)then some (.error ⟨71,t.at'⟩)else some (.ok (t.kind==k&&l.contains t.text,(t,o)::r)):=by
 unfold sees;rw[bind_eq,P.bind,aal];cases h:opens t&&decide (64≤o)<;>rfl
theorem aau (F:dS) (k:Int) (x:Bytes) (t:Tok) (o:Int) (r:TS):skip F k x ((t,o)::r)=if opens t&&decide (64≤o)then some (.error ⟨71,t.at'⟩)else if t.kind==k&&[x].contains t.text then some (.ok (true,r))else some (.ok (false,(t,o)::r)):=by
 unfold skip;rw[bind_eq,P.bind,aee];cases h:opens t&&decide (64≤o)
 ·cases h2:t.kind==k&&[x].contains t.text<;>simp<;>rfl
 ·rfl
theorem take_at (F:dS) (k:Int) (t:Tok) (o:Int) (r:TS):take F k ((t,o)::r)=if opens t&&decide (64≤o)then some (.error ⟨71,t.at'⟩)else if t.kind==k then some (.ok (t,r))else some (.error ⟨70,t.at'⟩):=by
 unfold take;rw[bind_eq,P.bind,aal];cases h:opens t&&decide (64≤o)
 ·cases h2:t.kind==k
  ·simp only[Bool.false_eq_true,if_false,h2,wrong];rw[bind_eq,P.bind,aal,h];rfl
  ·simp only[Bool.false_eq_true,if_false,h2,if_true];rfl
 ·rfl
theorem aa9 (F:dS) (k:Int) (x:Bytes) (t:Tok) (o:Int) (r:TS):must F k x ((t,o)::r)=if opens t&&decide (64≤o)then some (.error ⟨71,t.at'⟩)else if t.kind==k&&[x].contains t.text then some (.ok (t.at',r))else some (.error ⟨70,t.at'⟩):=by
 unfold must;rw[bind_eq,P.bind,aal];cases h:opens t&&decide (64≤o)
 ·simp only[Bool.false_eq_true,if_false];rw[bind_eq,P.bind,aau,h];cases h2:t.kind==k&&[x].contains t.text
  ·simp only[Bool.false_eq_true,if_false,wrong];rw[bind_eq,P.bind,aal,h];rfl
  ·simp only[Bool.false_eq_true,if_false,if_true];rfl
 ·rfl
section
variable (F:dS) (E B0:Tok × Int) (B':TS)
def ad7 {α:Type} (p p':P α) (A:TS):Prop:=∀x ts',p (A++[E])=some (.ok (x,ts'))→∃R,ts'=R++[E]∧p' (A++B0::B')=some (.ok (x,R++B0::B'))
abbrev Sim {α:Type} (p p':P α):Prop:=∀A,ad7 E B0 B' p p' A
abbrev aai {α:Type} (p p':P α):Prop:=∀a A,ad7 E B0 B' p p' (a::A)
abbrev afV {α:Type} (p p':P α):Prop:=∀a b A,ad7 E B0 B' p p' (a::b::A)
end
section
variable {F:dS} {E B0:Tok × Int} {B':TS} {α β:Type}
theorem ad7.bind {A:TS} {x x':P β} {f f':β→P α} (hx:ad7 E B0 B' x x' A) (hf:∀a,Sim E B0 B' (f a) (f' a)):ad7 E B0 B' (x >>= f) (x' >>= f') A:=by
 intro b ts' h;obtain⟨a,t1,h1,h2⟩:=bind_ok h
 obtain⟨R,rfl,h3⟩:=hx _ _ h1
 obtain⟨R',rfl,h4⟩:=hf a R _ _ h2
 exact⟨R',rfl,by rw[bind_eq,P.bind,h3];exact h4⟩
theorem Sim.bind {x x':P β} {f f':β→P α} (hx:Sim E B0 B' x x') (hf:∀a,Sim E B0 B' (f a) (f' a)):Sim E B0 B' (x >>= f) (x' >>= f'):=fun A=>(hx A).bind hf
theorem Sim.n {x x':P α} (h:Sim E B0 B' x x'):aai E B0 B' x x':=fun _ _=>h _
theorem Sim.pure (a:α):Sim E B0 B' (pure a:P α) (pure a):=by
 intro A x ts' h;rw[aZ]at h
 cases h;exact⟨A,rfl,rfl⟩
theorem Sim.fail (f:dS) {x:P α}:Sim E B0 B' (P.fail f:P α) x:=fun _ _ _ h=>by cases h
theorem Sim.out {x:P α}:Sim E B0 B' (P.out:P α) x:=fun _ _ _ h=>by cases h
theorem Sim.ite {c:Prop} [Decidable c] {x y x' y':P α} (hx:Sim E B0 B' x x') (hy:Sim E B0 B' y y'):Sim E B0 B' (if c then x else y) (if c then x' else y'):=by split<;>assumption
theorem aai.ite {c:Prop} [Decidable c] {x y x' y':P α} (hx:aai E B0 B' x x') (hy:aai E B0 B' y y'):aai E B0 B' (if c then x else y) (if c then x' else y'):=by split<;>assumption
theorem aai.oU {f f':Unit→P α} (h:Sim E B0 B' (f ()) (f' ())):aai E B0 B' (oU >>= f) (oU >>= f'):=by
 intro a A x ts' he;obtain⟨_,t1,h1,h2⟩:=bind_ok he
 cases h1;obtain⟨R,h3,h4⟩:=h A x ts' h2
 exact⟨R,h3,by rw[bind_eq,P.bind];exact h4⟩
theorem afV.oU {f f':Unit→P α} (h:aai E B0 B' (f ()) (f' ())):afV E B0 B' (oU >>= f) (oU >>= f'):=by
 intro a b A x ts' he;obtain⟨_,t1,h1,h2⟩:=bind_ok he
 cases h1;obtain⟨R,h3,h4⟩:=h b A x ts' h2
 exact⟨R,h3,by rw[bind_eq,P.bind];exact h4⟩
end
structure aeE (E B0:Tok × Int):Prop where
 e:E.1.kind=7
 k:B0.1.kind=2
 x:B0.1.text=[102,110]
section
variable {F:dS} {E B0:Tok × Int} {B':TS} {α β:Type} (S:aeE E B0)
include S
theorem aeE.eo:opens E.1=false:=by unfold opens;rw[S.e];rfl
theorem aeE.bo:opens B0.1=false:=by unfold opens;rw[S.k];rfl
theorem Sim.look {f f':Tok→P α} (hN:∀t,aai E B0 B' (f t) (f' t)) (h0:Sim E B0 B' (f E.1) (f' B0.1)):Sim E B0 B' (look F >>= f) (look F >>= f'):=by
 intro A;cases A with
 | nil =>
  intro x ts' h;have e1:Ck.look F ([]++[E])=some (.ok (E.1,[E])):=by rw[List.nil_append,show E=(E.1,E.2)from rfl,aal,S.eo];rfl
  have e2:Ck.look F ([]++B0::B')=some (.ok (B0.1,B0::B')):=by rw[List.nil_append,show B0=(B0.1,B0.2)from rfl,aal,S.bo];rfl
  rw[bind_eq,P.bind,e1]at h
  obtain⟨R,h3,h4⟩:=h0 [] x ts' h
  exact⟨R,h3,by rw[bind_eq,P.bind,e2];exact h4⟩
 | cons a A =>
  intro x ts' h;obtain⟨t,o⟩:=a
  rw[bind_eq,P.bind,List.cons_append,aal]at h
  split at h
  ·cases h
  ·cases h
  ·rename_i heq;split at heq
   ·cases heq
   ·rename_i hc;cases heq;obtain⟨R,h3,h4⟩:=hN t _ A x ts' h
    refine⟨R,h3,?_⟩;rw[bind_eq,P.bind,List.cons_append,aal,if_neg hc];exact h4
omit S in
theorem aaJ {x:P α}:Sim E B0 B' (wrong F:P α) x:=by
 intro A y ts' h;obtain⟨t,t1,h1,h2⟩:=bind_ok h
 cases h2
theorem aan (k:Int) (l:List Bytes) (hk:((7:Int)==k)=false) (hl:(((2:Int)==k)&&l.contains [102,110])=false):Sim E B0 B' (sees F k l) (sees F k l):=by
 refine Sim.look S (fun t=>(Sim.pure _).n) ?_;rw[S.e,S.k,S.x,hk,hl,Bool.false_and];exact Sim.pure _
theorem aam (k:Int) (x:Bytes) (hk:((7:Int)==k)=false) (hl:(((2:Int)==k)&&[x].contains [102,110])=false):Sim E B0 B' (skip F k x) (skip F k x):=by
 intro A;cases A with
 | nil =>
  intro b ts' h;rw[List.nil_append,show E=(E.1,E.2)from rfl,aau,S.eo,S.e,hk]at h
  simp only[Bool.false_and,Bool.false_eq_true,if_false]at h;cases h;refine⟨[],rfl,?_⟩;rw[List.nil_append,show B0=(B0.1,B0.2)from rfl,aau,S.bo,S.k,S.x,hl];rfl
 | cons a A =>
  intro b ts' h;obtain⟨t,o⟩:=a
  rw[List.cons_append,aau]at h
  rw[List.cons_append,aau];split at h
  ·cases h
  rename_i hc;rw[if_neg hc];split at h
  ·rename_i hd;cases h;exact⟨A,rfl,by rw[if_pos hd]⟩
  ·rename_i hd;cases h;exact⟨(t,o)::A,rfl,by rw[if_neg hd];rfl⟩
theorem aaf (k:Int) (x:Bytes) (hk:((7:Int)==k)=false):Sim E B0 B' (must F k x) (must F k x):=by
 intro A;cases A with
 | nil =>
  intro b ts' h;rw[List.nil_append,show E=(E.1,E.2)from rfl,aa9,S.eo,S.e,hk]at h
  cases h
 | cons a A =>
  intro b ts' h;obtain⟨t,o⟩:=a
  rw[List.cons_append,aa9]at h
  rw[List.cons_append,aa9];split at h
  ·cases h
  rename_i hc;rw[if_neg hc];split at h
  ·rename_i hd;cases h;exact⟨A,rfl,by rw[if_pos hd]⟩
  ·cases h
theorem aar (k:Int) (hk:((7:Int)==k)=false):Sim E B0 B' (take F k) (take F k):=by
 intro A;cases A with
 | nil =>
  intro b ts' h;rw[List.nil_append,show E=(E.1,E.2)from rfl,take_at,S.eo,S.e,hk]at h
  cases h
 | cons a A =>
  intro b ts' h;obtain⟨t,o⟩:=a
  rw[List.cons_append,take_at]at h
  rw[List.cons_append,take_at];split at h
  ·cases h
  rename_i hc;rw[if_neg hc];split at h
  ·rename_i hd;cases h;exact⟨A,rfl,by rw[if_pos hd]⟩
  ·cases h
theorem aai.label {g:Prop} [Decidable g] {f f':Bool→P α} (h1:afV E B0 B' (f true) (f' true)) (h0:aai E B0 B' (f false) (f' false)) :
  aai E B0 B' ((if g then(og F >>= fun c=>pure (c.kind==3&&c.text==[58]))else pure false:P Bool) >>= f) ((if g then(og F >>= fun c=>pure (c.kind==3&&c.text==[58]))else pure false) >>= f'):=by
 intro a A x ts' h;split
 ·rename_i hg;rw[if_pos hg]at h
  obtain⟨b,t1,h2,h3⟩:=bind_ok h
  obtain⟨c,t2,h4,h5⟩:=bind_ok h2
  rw[aZ]at h5
  cases h5;unfold og at h4;cases A with
  | nil =>
   simp only[List.cons_append,List.nil_append,List.tail_cons,aW,S.eo,Bool.false_and,Bool.false_eq_true,if_false]at h4;cases h4;have e0:(E.1.kind==3&&E.1.text==[58])=false:=by rw[S.e];rfl
   rw[e0]at h3
   obtain⟨R,h6,h7⟩:=h0 a [] x ts' h3
   refine⟨R,h6,?_⟩;rw[bind_eq,P.bind,bind_eq,P.bind];unfold og;simp only[List.cons_append,List.nil_append,List.tail_cons,aW,S.bo,Bool.false_and,Bool.false_eq_true,if_false];rw[aZ];simp only[S.k];exact h7
  | cons d A =>
   obtain⟨t,o⟩:=d
   simp only[List.cons_append,List.tail_cons,aW]at h4;cases hc:opens t&&decide (64≤o)
   ·rw[hc]at h4
    simp only[Bool.false_eq_true,if_false]at h4;cases h4
    have hw:ad7 E B0 B' (f (c.kind==3&&c.text==[58])) (f' (c.kind==3&&c.text==[58])) (a::(c,o)::A):=by
     cases (c.kind==3&&c.text==[58])
     ·exact h0 _ _
     ·exact h1 _ _ _
    obtain⟨R,h6,h7⟩:=hw x ts' h3
    refine⟨R,h6,?_⟩;rw[bind_eq,P.bind,bind_eq,P.bind];unfold og;simp only[List.cons_append,List.tail_cons,aW,hc,Bool.false_eq_true,if_false];rw[aZ];exact h7
   ·rw[hc]at h4;cases h4
 ·rename_i hg;rw[if_neg hg]at h
  rw[bind_eq,P.bind,aZ]at h
  obtain⟨R,h6,h7⟩:=h0 a A x ts' h
  exact⟨R,h6,by rw[bind_eq,P.bind,aZ];exact h7⟩
end
end Ck
end
