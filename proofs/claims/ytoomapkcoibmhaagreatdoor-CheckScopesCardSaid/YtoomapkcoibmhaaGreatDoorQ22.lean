/- A part of the proof. -/
import Derived.Test.YtoomapkcoibmhaaGreatDoorQ21
set_option maxRecDepth 100000
set_option maxHeartbeats 12800000
set_option linter.all false
section
open Go Go.Proofs Go.RowKit Ck
namespace Go.Proofs.YtoomapkcoibmhaaGreatDoor
theorem okName_bad {s:Bytes} (h:(lexAll s).2.code≠0):okName s=false:=by
 unfold okName
 split
 ·rename_i t f he;rw[he]at h;simp only at h;simp[h]
 ·rfl
theorem okName_len {s:Bytes} (h:(lexAll s).1.length≠2):okName s=false:=by
 unfold okName
 split
 ·rename_i t f he;rw[he]at h;simp at h
 ·rfl
def NameOut (w:World) (s:Bytes) (e:Ending) (w':World):Prop:=((okName s=true∧e=.returned (strV s))∨(okName s=false∧e=panS))∧Fr [] w w'
theorem qname_any (s:Bytes) (w:World) (hV:Vars w) (hs:s.length≤140737488351232):Calls Tryz.prog 104 #[.string ⟨s.toArray⟩] w (NameOut w s):=by
 have ha:=all_any s w hV hs
 by_cases hc:(lexAll s).2.code=0
 ·by_cases hl:(lexAll s).1.length=2
  ·obtain⟨t,t2,htt⟩:∃t t2,(lexAll s).1=[t,t2]:=by
    match h:(lexAll s).1,hl with
    | [t,t2],_=>exact⟨t,t2,rfl⟩
   have hok:okName s=(t.kind==1&&t.text==s):=by
    unfold okName
    rw[show lexAll s=([t,t2],(lexAll s).2)from Prod.ext htt rfl]
    simp[hc]
   have ha2:Calls Tryz.prog 156 #[.string ⟨s.toArray⟩] w (fun e w'=>Fr [] w w'∧∃g c,e=.returned (.tuple #[.slice (some ⟨g,0,none⟩) 2 c,.agg #[.int .i64 0,.int .i64 0]])∧g<w'.heap.size∧w'.cell? ⟨g,0,none⟩=some (.int .i64 t.kind)∧w'.cell? ⟨g,2,none⟩=some (.string ⟨t.text.toArray⟩)):=by
    refine ha.mono ?_
    rintro e w' ⟨hf,⟨_,v,rfl,hown⟩|⟨hne,_⟩⟩
    ·rw[htt]at hown
     obtain⟨g,c,rfl⟩:=ownsRow_succ (k:=1) hown
     refine⟨hf,g,c,rfl,(hown.lt g rfl).2,?_,?_⟩
     ·have:=hown.cells (g:=g) rfl 0 (.int .i64 t.kind) (by simp[tvals,tokc])
      rw[add0]at this;exact this
     ·have:=hown.cells (g:=g) rfl 2 (.string ⟨t.text.toArray⟩) (by simp[tvals,tokc])
      rw[add0]at this;exact this
    ·exact absurd hc hne
   have HO:=Lib.hid hok
   clear ha hc hl htt hok
   go_enter Tryz.func104,Tryz.ntmps104
   go_wp2_with (first|(go_at_call 156;refine ha2.mono ?_;rintro e w1 ⟨hf,g,c,rfl,hg,k0,k2⟩;have hgk:∀k,g<w1.heap.size+k:=fun k=>by omega)|(go_at_call 48;with_reducible refine(fit_no _).mono ?_;rintro e w2 ⟨rfl,rfl⟩)|(go_at_call 48;refine(fit_any _ _).mono ?_;rintro e w2 (⟨hb,rfl,rfl⟩|⟨hb,rfl,rfl⟩)))
   ·go_ret
    refine⟨.inl ⟨?_,rfl⟩,?_⟩
    ·rw[HO.out,Bool.and_eq_true];exact⟨beq_iff_eq.2 (by assumption),hb⟩
    ·repeat (first|exact hf|refine Fr.alloc ?_ _)
   ·refine⟨rfl,.inr ⟨?_,rfl⟩,?_⟩
    ·rw[HO.out];simp[hb]
    ·repeat (first|exact hf|refine Fr.alloc ?_ _)
   ·refine⟨rfl,.inr ⟨?_,rfl⟩,?_⟩
    ·rw[HO.out];simp[*]
    ·repeat (first|exact hf|refine Fr.alloc ?_ _)
  ·have HO:=Lib.hid (okName_len hl)
   have ha2:Calls Tryz.prog 156 #[.string ⟨s.toArray⟩] w (fun e w'=>Fr [] w w'∧∃x n c,e=.returned (.tuple #[.slice x n c,.agg #[.int .i64 0,.int .i64 0]])∧Hid (n≠2)):=by
    refine ha.mono ?_
    rintro e w' ⟨hf,⟨_,v,rfl,hown⟩|⟨hne,_⟩⟩
    ·rcases hown.2 with⟨rfl,h0⟩|⟨g,cap,cur,rfl,_⟩
     ·exact⟨hf,_,_,_,rfl,by show _≠_;omega⟩
     ·exact⟨hf,_,_,_,rfl,hl⟩
    ·exact absurd hc hne
   clear ha hc hl
   go_enter Tryz.func104,Tryz.ntmps104
   go_wp2_with (first|(go_at_call 156;refine ha2.mono ?_;rintro e w1 ⟨hf,x,n,c,rfl,hn⟩;have hn2:((n:Int)==2)=false:=(by have:=hn.out;simp;omega);have hn3:(n==2)=false:=(by have:=hn.out;simpa using this))|(go_at_call 48;with_reducible refine(fit_no _).mono ?_;rintro e w2 ⟨rfl,rfl⟩))
   refine⟨rfl,.inr ⟨HO.out,rfl⟩,?_⟩
   repeat (first|exact hf|refine Fr.alloc ?_ _)
 ·have HO:=Lib.hid (okName_bad hc)
  have ha2:Calls Tryz.prog 156 #[.string ⟨s.toArray⟩] w (fun e w'=>Fr [] w w'∧e=.returned (.tuple #[.slice none 0 0,.agg #[.int .i64 (lexAll s).2.code,.int .i64 (lexAll s).2.at']])):=by
   refine ha.mono ?_
   rintro e w' ⟨hf,⟨h0,_⟩|⟨_,rfl⟩⟩
   ·exact absurd h0 hc
   ·exact⟨hf,rfl⟩
  clear ha hc
  go_enter Tryz.func104,Tryz.ntmps104
  go_wp2_with (first|(go_at_call 156;refine ha2.mono ?_;rintro e w1 ⟨hf,rfl⟩)|(go_at_call 48;with_reducible refine(fit_no _).mono ?_;rintro e w2 ⟨rfl,rfl⟩))
  refine⟨rfl,.inr ⟨HO.out,rfl⟩,?_⟩
  repeat (first|exact hf|refine Fr.alloc ?_ _)
section
variable {α β:Type} {S:QSt} {a:Nat} {toks:List Bytes} {w:World} {st:List Ck.Node × List Bytes} {r:Option (β × (List Ck.Node × List Bytes))}
theorem q_last {m:Pr β} (h:Hid (m st=some r)):Hid ((m >>= pure) st=some r):=by
 show _=_
 rw[Pr.bind_eq,Pr.bind,h.out]
 cases r with
 | none=>rfl
 | some p=>rfl
theorem q_kind {k:Int→Pr β} (h:Hid ((nkind >>= k) st=some r)):Hid (k (nk st.1) st=some r):=h
theorem q_fit {b:Bool} {k:Unit→Pr β} (h:Hid ((fit b >>= k) st=some r)):(b=true→Hid (k () st=some r))∧(b=false→r=none):=by
 refine⟨fun e=>?_,fun e=>?_⟩
 ·subst e;exact h
 ·subst e
  have:=h.out
  simpa[Pr.bind_eq,Pr.bind,fit]using this.symm
theorem q_put {l:List Bytes} {rest:List Ck.Node} {k:Unit→Pr β} (h:Hid ((put l >>= k) (rest,toks)=some r)):tw (toks++l)≤wlim∧Hid (k () (rest,toks++l)=some r):=by
 have h:=h.out
 rw[Pr.bind_eq]at h
 unfold Pr.bind put at h
 simp only at h
 by_cases hw:tw (toks++l)≤wlim
 ·rw[if_pos hw]at h;exact⟨hw,h⟩
 ·rw[if_neg hw]at h;cases h
theorem q_name {s:Bytes} {k:Bytes→Pr β} (h:Hid ((nameP s >>= k) st=some r)):(okName s=true→Hid (k s st=some r))∧(okName s=false→r=none):=by
 refine⟨fun e=>?_,fun e=>?_⟩
 ·have h:=h.out
  simp only[nameP,Pr.bind_eq,Pr.bind,fit,e,if_true]at h
  exact h
 ·have h:=h.out
  simp only[nameP,Pr.bind_eq,Pr.bind,fit,e,Bool.false_eq_true,if_false]at h
  simpa using h.symm
theorem q_ite_pos {c:Prop} [Decidable c] {x y:Pr β} (hc:c) (h:Hid ((if c then x else y) st=some r)):Hid (x st=some r):=by rw[if_pos hc]at h;exact h
theorem q_ite_neg {c:Prop} [Decidable c] {x y:Pr β} (hc:¬c) (h:Hid ((if c then x else y) st=some r)):Hid (y st=some r):=by rw[if_neg hc]at h;exact h
theorem q_call {fn:Nat} {args:List Value} {val:α→Value} {m:Pr α} {k:α→Pr β} (ih:VAny fn args S val m) (h:QS S a toks w) (hm:Hid ((m >>= k) (S.l.drop a,toks)=some r)) :
  Calls Tryz.prog fn (List.toArray (.pointer (some ⟨S.bp,0,none⟩)::args)) w (fun e w'=>(e=.panicked [{ v:=.iface 91 (.agg #[]),recovered:=false }]∧r=none∧Pf S.bp w w') ∨
   ∃y a' toks',e=.returned (val y)∧QS S a' toks' w'∧Pf S.bp w w'∧Hid (k y (S.l.drop a',toks')=some r)):=by
 rcases qbind hm with⟨h1,h2⟩|⟨y,s',h1,h2⟩
 ·refine(ih a toks w none h h1).mono ?_
  rintro e w' (⟨_,he,hb⟩|⟨y,a',toks',e1,_⟩)
  ·exact .inl ⟨he,h2,hb⟩
  ·cases e1
 ·refine(ih a toks w (some (y,s')) h h1).mono ?_
  rintro e w' (⟨e1,_⟩|⟨y',a',toks',e1,he,hps,hb⟩)
  ·cases e1
  ·cases e1
   exact .inr ⟨y,a',toks',he,hps,hb,h2⟩
theorem VOut.pan {val:β→Value} {w w':World} (hr:r=none) (hb:Pf S.bp w w'):VOut S w val r (.panicked [{ v:=.iface 91 (.agg #[]),recovered:=false }]) w':=.inl ⟨hr,rfl,hb⟩
theorem VOut.ret {val:β→Value} {w w':World} {y:β} (hr:Hid ((pure y:Pr β) (S.l.drop a,toks)=some r)) (h:QS S a toks w') (hb:Pf S.bp w w'):VOut S w val r (.returned (val y)) w':=by
 have:=hr.out
 rw[Pr.pure_eq]at this
 exact .inr ⟨y,a,toks,by simpa using this.symm,rfl,h,hb⟩
theorem QS.fr0 (h:QS S a toks w) {w':World} (hf:Fr [] w w'):Pf S.bp w w':=Pf.of_fr hf h.lt
end
theorem run_asAggQ (P:Program) (w:World) (cs:Array Value):(asAgg (.agg cs)).run P w=.ok cs w:=rfl
@[go_sem] theorem run_nodeKids (a b c d e f:Value) (w:World):(Instr.field 40 (.agg #[a,b,c,d,e,f]) 2).run Tryz.prog w=.ok c w:=by
 simp[Instr.field,go_sem,run_asAggQ]
section
variable {β:Type} {S:QSt} {a:Nat} {toks:List Bytes} {w:World} {st:List Ck.Node × List Bytes} {r:Option (β × (List Ck.Node × List Bytes))}
theorem q_assoc {α γ:Type} {x:Pr α} {f:α→Pr γ} {g:γ→Pr β} (h:Hid (((x >>= f) >>= g) st=some r)):Hid ((x >>= fun y=>f y >>= g) st=some r):=by
 have h:=h.out
 show _=_
 rw[←h]
 simp only[Pr.bind_eq,Pr.bind]
 cases x st with
 | none=>rfl
 | some o=>cases o<;>rfl
theorem q_rep_zero {x:Pr Unit} {k:Unit→Pr β} (h:Hid ((repP x 0 >>= k) st=some r)):Hid (k () st=some r):=h
theorem q_rep_succ {x:Pr Unit} {n:Nat} {k:Unit→Pr β} (h:Hid ((repP x (n+1) >>= k) st=some r)):Hid ((x >>= fun _=>(repP x n >>= k)) st=some r):=q_assoc h
theorem q_next {t u v:Bool} {k:Ck.Node→Pr β} (h:QS S a toks w) (hm:Hid ((nnext t u v >>= k) (S.l.drop a,toks)=some r)) :
  Calls Tryz.prog 75 #[.pointer (some ⟨S.bp,0,none⟩),.bool t,.bool u,.bool v] w (fun e w'=>(e=.panicked [{ v:=.iface 91 (.agg #[]),recovered:=false }]∧r=none∧Pf S.bp w w') ∨
   ∃n a',e=.returned (.agg #[.int .i64 n.kind,.int .i64 n.at',.int .i64 n.kids,.string ⟨n.text.toArray⟩,.int .i64 n.int,.int .u64 n.bits])∧n∈S.l∧0≤n.kids∧QS S a' toks w'∧Pf S.bp w w'∧Hid (k n (S.l.drop a',toks)=some r)):=by
 rcases qbind hm with⟨h1,h2⟩|⟨y,s',h1,h2⟩
 ·refine(qnext_any t u v a toks w none h h1).mono ?_
  rintro e w' (⟨_,he,hb⟩|⟨y,a',toks',e1,_⟩)
  ·exact .inl ⟨he,h2,hb⟩
  ·cases e1
 ·have hy:y∈S.l∧0≤y.kids∧s'.2=toks:=by
   cases hd:S.l.drop a with
   | nil=>rw[hd]at h1;cases h1
   | cons n l =>
    rw[hd,nnext_cons]at h1
    split at h1
    ·rename_i hf
     cases h1
     refine⟨List.mem_of_mem_drop (i:=a) (by rw[hd];simp),?_,rfl⟩
     unfold fits at hf
     simp only[Bool.and_eq_true,decide_eq_true_eq]at hf
     exact hf.1.1.1
    ·cases h1
  refine(qnext_any t u v a toks w (some (y,s')) h h1).mono ?_
  rintro e w' (⟨e1,_⟩|⟨y',a',toks',e1,he,hps,hb⟩)
  ·cases e1
  ·cases e1
   obtain⟨q1,q2,q3⟩:=hy
   obtain rfl:toks'=toks:=q3
   exact .inr ⟨y,a',he,q1,q2,hps,hb,h2⟩
theorem q_namec {s:Bytes} {k:Bytes→Pr β} (h:QS S a toks w) (hs:s.length≤140737488351232) (hm:Hid ((nameP s >>= k) st=some r)) :
  Calls Tryz.prog 104 #[.string ⟨s.toArray⟩] w (fun e w'=>(e=.panicked [{ v:=.iface 91 (.agg #[]),recovered:=false }]∧r=none∧Pf S.bp w w') ∨
   (e=.returned (.string ⟨s.toArray⟩)∧QS S a toks w'∧Pf S.bp w w'∧Hid (k s st=some r))):=by
 refine(qname_any s w h.vars hs).mono ?_
 rintro e w' ⟨⟨hok,rfl⟩|⟨hok,rfl⟩,hf⟩
 ·exact .inr ⟨rfl,h.fr hf,h.fr0 hf,(q_name hm).1 hok⟩
 ·exact .inl ⟨rfl,(q_name hm).2 hok,h.fr0 hf⟩
theorem q_putc {l:List Bytes} {k:Unit→Pr β} (h:QS S a toks w) (hm:Hid ((put l >>= k) (S.l.drop a,toks)=some r)) {cs:Array Value} (hcs:cs=(l.map fun x=>Value.string ⟨x.toArray⟩).toArray) (hl:l≠[]) {z:Nat} (hz:w.heap.size=z) :
  Calls Tryz.prog 76 #[.pointer (some ⟨S.bp,0,none⟩),.slice (some ⟨z,0,none⟩) l.length l.length] (w.alloc (.cells cs 9)) (fun e w'=>e=.returned (.tuple #[])∧QS S a (toks++l) w'∧Pf S.bp w w'∧Hid (k () (S.l.drop a,toks++l)=some r)):=by
 subst hcs
 subst hz
 obtain⟨h1,h2⟩:=q_put hm
 refine(qput_any (h.alloc _) _ l (strL w l) hl h1).mono ?_
 rintro e w' ⟨rfl,hq,hp⟩
 exact⟨rfl,hq,(h.fr0 ((Fr.refl _ _).alloc _)).trans hp,h2⟩
theorem q_kindc {k:Int→Pr β} (h:QS S a toks w) (hm:Hid ((nkind >>= k) (S.l.drop a,toks)=some r)) :
  Calls Tryz.prog 74 #[.pointer (some ⟨S.bp,0,none⟩)] w (fun e w'=>e=.returned (.int .i64 (nk (S.l.drop a)))∧QS S a toks w'∧Pf S.bp w w'∧Hid (k (nk (S.l.drop a)) (S.l.drop a,toks)=some r)) :=
 (qkind_any h).mono fun _ _ ⟨he,hf⟩=>⟨he,h.fr hf,h.fr0 hf,hm⟩
end
section
variable {S:QSt}
theorem qbare_any (kind kids:Int):VAny 188 [.int .i64 kind,.int .i64 kids] S unitV (bareP kind kids):=by
 intro a toks w r h HM
 unfold bareP at HM
 have HM:=q_kind HM
 have hbel:=Pf.refl S.bp w
 go_enter Tryz.func188,Tryz.ntmps188
 go_wp2_with (first
  | (go_at_call 74;refine(qkind_any h).mono ?_;rintro e w1 ⟨rfl,hf1⟩;have h1:=h.fr hf1;have hb1:=hbel.trans (h.fr0 hf1))
  | (go_at_call 48;refine(fit_any (nk (S.l.drop a)==kind) _).mono ?_;rintro e w2 (⟨hb,rfl,rfl⟩|⟨hb,rfl,rfl⟩);have HM2:=(q_fit HM).1 hb;rotate_left;exact⟨rfl,VOut.pan ((q_fit HM).2 hb) hb1⟩)
  | (go_at_call 75;refine(q_call (qnext_any false false false) h1 HM2).mono ?_;rintro e w3 (⟨rfl,hr,hb3⟩|⟨n,a3,toks3,rfl,h3,hb3,HM3⟩);exact⟨rfl,VOut.pan hr (hb1.trans hb3)⟩;simp only[nodeV])
  | (go_at_call 48;refine(fit_any (n.kids==kids) _).mono ?_;rintro e w4 (⟨hb,rfl,rfl⟩|⟨hb,rfl,rfl⟩);have HM4:=(q_fit (q_last HM3)).1 hb;rotate_left;exact⟨rfl,VOut.pan ((q_fit (q_last HM3)).2 hb) (hb1.trans hb3)⟩))
 go_end0
 exact VOut.ret (y:=()) HM4 h3 (hb1.trans hb3)
end
section
variable {S:QSt}
theorem qnamed_any (kind kids:Int):VAny 77 [.int .i64 kind,.int .i64 kids] S strV (namedP kind kids):=by
 intro a toks w r h HM
 unfold namedP at HM
 have p0:=Pf.refl S.bp w
 go_enter Tryz.func77,Tryz.ntmps77
 go_wp2_with (first
   | (go_at_call 74;refine(q_kindc h HM).mono ?_;rintro e w1 ⟨rfl,h1,pf1,HM1⟩;have p1:=p0.trans pf1;clear HM)
   | (go_at_call 48;refine(fit_any (nk (S.l.drop a)==kind) _).mono ?_;rintro e w2 (⟨hb2,rfl,rfl⟩|⟨hb2,rfl,rfl⟩);have HM2:=(q_fit HM1).1 hb2;rotate_left;exact⟨rfl,VOut.pan ((q_fit HM1).2 hb2) p1⟩;clear HM1)
   | (go_at_call 75;refine(q_next h1 HM2).mono ?_;rintro e w3 (⟨rfl,hr,pf3⟩|⟨n,a3,rfl,hin3,hk3,h3,pf3,HM3⟩);exact⟨rfl,VOut.pan hr (p1.trans pf3)⟩;have p3:=p1.trans pf3;have ok3:=h3.ok _ hin3;clear HM2;have bxn:=Blk.new w3 #[.int .i64 n.kind,.int .i64 n.at',.int .i64 n.kids,.string ⟨n.text.toArray⟩,.int .i64 n.int,.int .u64 n.bits] 40;obtain⟨ncn,nzn,nsetn,nbn⟩:=bxn.rules;have hnen:w3.heap.size≠S.bp:=(by have:=h3.lt;omega);have h4:=h3.alloc (.cells #[.int .i64 n.kind,.int .i64 n.at',.int .i64 n.kids,.string ⟨n.text.toArray⟩,.int .i64 n.int,.int .u64 n.bits] 40);have p4:=p3.trans (QS.fr0 h3 ((Fr.refl _ _).alloc (.cells #[.int .i64 n.kind,.int .i64 n.at',.int .i64 n.kids,.string ⟨n.text.toArray⟩,.int .i64 n.int,.int .u64 n.bits] 40))))
   | (go_at_call 48;refine(fit_any (n.kids==kids) _).mono ?_;rintro e w5 (⟨hb5,rfl,rfl⟩|⟨hb5,rfl,rfl⟩);have HM5:=(q_fit HM3).1 hb5;rotate_left;exact⟨rfl,VOut.pan ((q_fit HM3).2 hb5) p4⟩;clear HM3)
   | (go_at_call 104;refine(q_namec h4 ok3.text (q_last HM5)).mono ?_;rintro e w6 (⟨rfl,hr,pf6⟩|⟨rfl,h6,pf6,HM6⟩);exact⟨rfl,VOut.pan hr (p4.trans pf6)⟩;have p6:=p4.trans pf6;have bxn:=QS.blkOn h4 pf6 bxn (by decide) hnen;obtain⟨ncn,nzn,nsetn,nbn⟩:=bxn.rules;clear HM5))
 go_ret
 exact VOut.ret (y:=n.text) HM6 h6 p6
theorem qpair_any {r:PRec} (ihe:QAny 187 S r.expr) (x:Bytes):VAny 218 [.string ⟨x.toArray⟩] S unitV (qPair r x):=by
 intro a toks w r h HM
 unfold qPair at HM
 have p0:=Pf.refl S.bp w
 go_enter Tryz.func218,Tryz.ntmps218
 go_wp2_with (first
   | (go_at_call 76;refine(q_putc (l:=[[40]]) h HM rfl (by simp) (by first|rfl|simp)).mono ?_;rintro e w1 ⟨rfl,h1,pf1,HM1⟩;have p1:=p0.trans pf1;clear HM)
   | (go_at_call 187;refine(q_call ihe h1 HM1).mono ?_;rintro e w2 (⟨rfl,hr,pf2⟩|⟨u2,a2,toks2,rfl,h2,pf2,HM2⟩);exact⟨rfl,VOut.pan hr (p1.trans pf2)⟩;simp only[unitV];have p2:=p1.trans pf2;clear HM1)
   | (go_at_call 76;refine(q_putc (l:=[x]) h2 HM2 rfl (by simp) (by first|rfl|simp)).mono ?_;rintro e w3 ⟨rfl,h3,pf3,HM3⟩;have p3:=p2.trans pf3;clear HM2)
   | (go_at_call 187;refine(q_call ihe h3 HM3).mono ?_;rintro e w4 (⟨rfl,hr,pf4⟩|⟨u4,a4,toks4,rfl,h4,pf4,HM4⟩);exact⟨rfl,VOut.pan hr (p3.trans pf4)⟩;simp only[unitV];have p4:=p3.trans pf4;clear HM3)
   | (go_at_call 76;refine(q_putc (l:=[[41]]) h4 (q_last HM4) rfl (by simp) (by first|rfl|simp)).mono ?_;rintro e w5 ⟨rfl,h5,pf5,HM5⟩;have p5:=p4.trans pf5;clear HM4))
 go_end0
 exact VOut.ret (y:=()) HM5 h5 p5
theorem qindexed_any {r:PRec} (ihe:QAny 187 S r.expr):QAny 189 S (qIndexed r):=by
 intro a toks w r h HM
 unfold qIndexed at HM
 have p0:=Pf.refl S.bp w
 go_enter Tryz.func189,Tryz.ntmps189
 go_wp2_with (first
   | (go_at_call 187;refine(q_call ihe h HM).mono ?_;rintro e w1 (⟨rfl,hr,pf1⟩|⟨u1,a1,toks1,rfl,h1,pf1,HM1⟩);exact⟨rfl,VOut.pan hr (p0.trans pf1)⟩;simp only[unitV];have p1:=p0.trans pf1;clear HM)
   | (go_at_call 76;refine(q_putc (l:=[[91]]) h1 HM1 rfl (by simp) (by first|rfl|simp)).mono ?_;rintro e w2 ⟨rfl,h2,pf2,HM2⟩;have p2:=p1.trans pf2;clear HM1)
   | (go_at_call 187;refine(q_call ihe h2 HM2).mono ?_;rintro e w3 (⟨rfl,hr,pf3⟩|⟨u3,a3,toks3,rfl,h3,pf3,HM3⟩);exact⟨rfl,VOut.pan hr (p2.trans pf3)⟩;simp only[unitV];have p3:=p2.trans pf3;clear HM2)
   | (go_at_call 76;refine(q_putc (l:=[[93]]) h3 (q_last HM3) rfl (by simp) (by first|rfl|simp)).mono ?_;rintro e w4 ⟨rfl,h4,pf4,HM4⟩;have p4:=p3.trans pf4;clear HM3))
 go_end0
 exact VOut.ret (y:=()) HM4 h4 p4
end
section
variable {S:QSt}
theorem q_kindk {a:Nat} {toks:List Bytes} {w:World} {kk:Int} (h:QS S a toks w) (hk:Hid (nk (S.l.drop a)=kk)) (_t:Hid True) :
  Calls Tryz.prog 74 #[.pointer (some ⟨S.bp,0,none⟩)] w (fun e w'=>e=.returned (.int .i64 kk)∧QS S a toks w'∧Pf S.bp w w') :=
 (qkind_any h).mono fun _ _ ⟨he,hf⟩=>⟨by rw[he,hk.out],h.fr hf,h.fr0 hf⟩
theorem qblock_any {q:PRec} (ihs:QAny 157 S q.statement):QAny 105 S (qBlock q):=by
 intro a toks w r h HM
 unfold qBlock at HM
 have p0:=Pf.refl S.bp w
 go_enter Tryz.func105,Tryz.ntmps105
 go_wp2_with (first
   | (go_at_call 74;refine(q_kindc h HM).mono ?_;rintro e w1 ⟨rfl,h1,pf1,HM1⟩;have p1:=p0.trans pf1;clear HM)
   | (go_at_call 48;refine(fit_any (nk (S.l.drop a)==5) _).mono ?_;rintro e w2 (⟨hb2,rfl,rfl⟩|⟨hb2,rfl,rfl⟩);have HM2:=(q_fit HM1).1 hb2;rotate_left;exact⟨rfl,VOut.pan ((q_fit HM1).2 hb2) p1⟩;clear HM1)
   | (go_at_call 76;refine(q_putc (l:=[[123]]) h1 HM2 rfl (by simp) (by first|rfl|simp)).mono ?_;rintro e w3 ⟨rfl,h3,pf3,HM3⟩;have p3:=p1.trans pf3;clear HM2)
   | (go_at_call 75;refine(q_next h3 HM3).mono ?_;rintro e w4 (⟨rfl,hr,pf4⟩|⟨n,a4,rfl,hin4,hk4,h4,pf4,HM4⟩);exact⟨rfl,VOut.pan hr (p3.trans pf4)⟩;have p4:=p3.trans pf4;have ok4:=h4.ok _ hin4;clear HM3))
 have hmax:=ok4.kids
 obtain⟨N,hN⟩:∃N:Nat,n.kids=(N:Int):=⟨n.kids.toNat,(Int.toNat_of_nonneg hk4).symm⟩
 rw[hN]at HM4 hmax ⊢
 simp only[Int.toNat_natCast]at HM4
 clear hN hk4 ok4 hin4
 have hH:=h4;have hP:=p4;have hM:=HM4
 clear h p0 h1 h3 h4 p1 p3 p4 pf1 pf3 pf4 HM4 hb2
 go_loopg [12] N (fun k c wr=>∃j:Nat,c=.int .i64 j∧Hid (j+k=N∧∃a toks,QS S a toks wr∧Pf S.bp w wr∧Hid ((repP q.statement k >>= fun _=>put [[125]]) (S.l.drop a,toks)=some r)))
 case atStart=>exact⟨0,rfl,by omega,_,_,hH,hP,hM⟩
 case round =>
  clear hH hP hM
  obtain⟨j,rfl,hq⟩:=hrel
  obtain⟨hj,a,toks,h,p0,HM⟩:=hq.out
  clear hq
  cases gk with
  | zero =>
   have hlt:¬(j:Int)<N:=by omega
   have HM:=q_rep_zero HM
   go_wp2_with (first
     | (go_at_call 76;refine(q_putc (l:=[[125]]) h (q_last HM) rfl (by simp) (by first|rfl|simp)).mono ?_;rintro e w1 ⟨rfl,h1,pf1,HM1⟩;have p1:=p0.trans pf1;clear HM))
   go_end0
   exact VOut.ret (y:=()) HM1 h1 p1
  | succ k =>
   have hlt:(j:Int)<N:=by omega
   have HM:=q_rep_succ HM
   go_wp2_with (first
     | (go_at_call 157;refine(q_call ihs h HM).mono ?_;rintro e w1 (⟨rfl,hr,pf1⟩|⟨u1,a1,toks1,rfl,h1,pf1,HM1⟩);exact⟨rfl,VOut.pan hr (p0.trans pf1)⟩;simp only[unitV];have p1:=p0.trans pf1;clear HM))
   go_roundg k
   case measure=>omega
   case rel=>exact⟨j+1,by go_num,by omega,_,_,h1,p1,HM1⟩
theorem qchoice_any {q:PRec} (ihe:QAny 187 S q.expr) (ihb:QAny 105 S q.block) (ihc:QAny 190 S q.choice):QAny 190 S (qChoice q):=by
 intro a toks w r h HM
 unfold qChoice at HM
 have p0:=Pf.refl S.bp w
 go_enter Tryz.func190,Tryz.ntmps190
 go_upto_region 1 with(first
   | (go_at_call 75;refine(q_next h HM).mono ?_;rintro e w1 (⟨rfl,hr,pf1⟩|⟨n,a1,rfl,hin1,hk1,h1,pf1,HM1⟩);exact⟨rfl,VOut.pan hr (p0.trans pf1)⟩;have p1:=p0.trans pf1;have ok1:=h1.ok _ hin1;clear HM;have bxn:=Blk.new w1 #[.int .i64 n.kind,.int .i64 n.at',.int .i64 n.kids,.string ⟨n.text.toArray⟩,.int .i64 n.int,.int .u64 n.bits] 40;obtain⟨ncn,nzn,nsetn,nbn⟩:=bxn.rules;have hnen:w1.heap.size≠S.bp:=(by have:=h1.lt;omega);have h2:=h1.alloc (.cells #[.int .i64 n.kind,.int .i64 n.at',.int .i64 n.kids,.string ⟨n.text.toArray⟩,.int .i64 n.int,.int .u64 n.bits] 40);have p2:=p1.trans (QS.fr0 h1 ((Fr.refl _ _).alloc (.cells #[.int .i64 n.kind,.int .i64 n.at',.int .i64 n.kids,.string ⟨n.text.toArray⟩,.int .i64 n.int,.int .u64 n.bits] 40)))))
 cases c2:(n.kids==2)
 rotate_left
 ·have HM3:=(q_fit HM1).1 (by simp[c2])
  clear HM1
  go_wp2_with (first
    | (go_at_call 48;with_reducible refine(fit_yes _).mono ?_;rintro e w4 ⟨rfl,rfl⟩)
    | (go_at_call 76;refine(q_putc (l:=[[105,102]]) h2 HM3 rfl (by simp) (by first|rfl|simp)).mono ?_;rintro e w5 ⟨rfl,h5,pf5,HM5⟩;have p5:=p2.trans pf5;have bxn:=QS.blkOn h2 pf5 bxn (by decide) hnen;obtain⟨ncn,nzn,nsetn,nbn⟩:=bxn.rules;clear HM3)
    | (go_at_call 187;refine(q_call ihe h5 HM5).mono ?_;rintro e w6 (⟨rfl,hr,pf6⟩|⟨u6,a6,toks6,rfl,h6,pf6,HM6⟩);exact⟨rfl,VOut.pan hr (p5.trans pf6)⟩;simp only[unitV];have p6:=p5.trans pf6;have bxn:=QS.blkOn h5 pf6 bxn (by decide) hnen;obtain⟨ncn,nzn,nsetn,nbn⟩:=bxn.rules;clear HM5)
    | (go_at_call 105;refine(q_call ihb h6 HM6).mono ?_;rintro e w7 (⟨rfl,hr,pf7⟩|⟨u7,a7,toks7,rfl,h7,pf7,HM7⟩);exact⟨rfl,VOut.pan hr (p6.trans pf7)⟩;simp only[unitV];have p7:=p6.trans pf7;have bxn:=QS.blkOn h6 pf7 bxn (by decide) hnen;obtain⟨ncn,nzn,nsetn,nbn⟩:=bxn.rules;clear HM6))
  go_end0
  exact VOut.ret (y:=()) (q_ite_pos c2 HM7) h7 p7
 cases c3:(n.kids==3)
 rotate_left
 ·have HM3:=(q_fit HM1).1 (by simp[c3])
  clear HM1
  go_upto_region 6 with(first
    | (go_at_call 48;with_reducible refine(fit_yes _).mono ?_;rintro e w4 ⟨rfl,rfl⟩)
    | (go_at_call 76;refine(q_putc (l:=[[105,102]]) h2 HM3 rfl (by simp) (by first|rfl|simp)).mono ?_;rintro e w5 ⟨rfl,h5,pf5,HM5⟩;have p5:=p2.trans pf5;have bxn:=QS.blkOn h2 pf5 bxn (by decide) hnen;obtain⟨ncn,nzn,nsetn,nbn⟩:=bxn.rules;clear HM3)
    | (go_at_call 187;refine(q_call ihe h5 HM5).mono ?_;rintro e w6 (⟨rfl,hr,pf6⟩|⟨u6,a6,toks6,rfl,h6,pf6,HM6⟩);exact⟨rfl,VOut.pan hr (p5.trans pf6)⟩;simp only[unitV];have p6:=p5.trans pf6;have bxn:=QS.blkOn h5 pf6 bxn (by decide) hnen;obtain⟨ncn,nzn,nsetn,nbn⟩:=bxn.rules;clear HM5)
    | (go_at_call 105;refine(q_call ihb h6 HM6).mono ?_;rintro e w7 (⟨rfl,hr,pf7⟩|⟨u7,a7,toks7,rfl,h7,pf7,HM7⟩);exact⟨rfl,VOut.pan hr (p6.trans pf7)⟩;simp only[unitV];have p7:=p6.trans pf7;have bxn:=QS.blkOn h6 pf7 bxn (by decide) hnen;obtain⟨ncn,nzn,nsetn,nbn⟩:=bxn.rules;clear HM6))
  have HM8:=q_ite_neg (by simp[c2]) HM7
  clear HM7
  go_upto_region 7 with(first
    | (go_at_call 76;refine(q_putc (l:=[[101,108,115,101]]) h7 HM8 rfl (by simp) (by first|rfl|simp)).mono ?_;rintro e w9 ⟨rfl,h9,pf9,HM9⟩;have p9:=p7.trans pf9;have bxn:=QS.blkOn h7 pf9 bxn (by decide) hnen;obtain⟨ncn,nzn,nsetn,nbn⟩:=bxn.rules;clear HM8))
  have HM10:=q_kind HM9
  clear HM9
  cases hk9:(nk (S.l.drop a7)==9)
  ·have HM11:=q_ite_neg (by simp[hk9]) HM10
   have kt:Hid True:=trivial
   obtain⟨kk,hk,e9⟩:∃kk,Hid (nk (S.l.drop a7)=kk)∧(kk==9)=false:=⟨_,rfl,hk9⟩
   clear hk9 HM10
   go_wp2_with (first
     | (go_at_call 74;refine(q_kindk h9 hk kt).mono ?_;rintro e w12 ⟨rfl,h12,pf12⟩;have p12:=p9.trans pf12;have bxn:=QS.blkOn h9 pf12 bxn (by decide) hnen;obtain⟨ncn,nzn,nsetn,nbn⟩:=bxn.rules;clear kt)
     | (go_at_call 105;refine(q_call ihb h12 (q_last HM11)).mono ?_;rintro e w13 (⟨rfl,hr,pf13⟩|⟨u13,a13,toks13,rfl,h13,pf13,HM13⟩);exact⟨rfl,VOut.pan hr (p12.trans pf13)⟩;simp only[unitV];have p13:=p12.trans pf13;have bxn:=QS.blkOn h12 pf13 bxn (by decide) hnen;obtain⟨ncn,nzn,nsetn,nbn⟩:=bxn.rules;clear HM11))
   go_end0
   exact VOut.ret (y:=()) HM13 h13 p13
  ·have HM11:=q_ite_pos (by simp[hk9]) HM10
   have kt:Hid True:=trivial
   obtain⟨kk,hk,e9⟩:∃kk,Hid (nk (S.l.drop a7)=kk)∧(kk==9)=true:=⟨_,rfl,hk9⟩
   clear hk9 HM10
   obtain rfl:kk=9:=by simpa using e9
   go_wp2_with (first
     | (go_at_call 74;refine(q_kindk h9 hk kt).mono ?_;rintro e w12 ⟨rfl,h12,pf12⟩;have p12:=p9.trans pf12;have bxn:=QS.blkOn h9 pf12 bxn (by decide) hnen;obtain⟨ncn,nzn,nsetn,nbn⟩:=bxn.rules;clear kt)
     | (go_at_call 190;refine(q_call ihc h12 (q_last HM11)).mono ?_;rintro e w13 (⟨rfl,hr,pf13⟩|⟨u13,a13,toks13,rfl,h13,pf13,HM13⟩);exact⟨rfl,VOut.pan hr (p12.trans pf13)⟩;simp only[unitV];have p13:=p12.trans pf13;have bxn:=QS.blkOn h12 pf13 bxn (by decide) hnen;obtain⟨ncn,nzn,nsetn,nbn⟩:=bxn.rules;clear HM11))
   go_end0
   exact VOut.ret (y:=()) HM13 h13 p13
 ·have hrn:=Lib.hid ((q_fit HM1).2 (by simp[c2,c3]))
  go_wp2_with (first
    | (go_at_call 48;with_reducible refine(fit_no _).mono ?_;rintro e w3 ⟨rfl,rfl⟩))
  exact⟨rfl,VOut.pan hrn.out p2⟩
end
section
variable {S:QSt}
theorem ne_nil_of {s:Bytes} (h:s.isEmpty=false):(s != [])=true:=by cases s<;>simp_all
theorem eq_nil_of {s:Bytes} (h:s.isEmpty=true):¬(s != [])=true:=by cases s<;>simp_all
theorem qloop_any {q:PRec} (ihe:QAny 187 S q.expr) (ihb:QAny 105 S q.block):QAny 191 S (qLoop q):=by
 intro a toks w r h HM
 unfold qLoop at HM
 have p0:=Pf.refl S.bp w
 have HM0:=q_kind HM
 clear HM
 have kt:Hid True:=trivial
 obtain⟨kk,hk,HK⟩:∃kk,Hid (nk (S.l.drop a)=kk)∧nk (S.l.drop a)=kk:=⟨_,rfl,rfl⟩
 simp only[HK]at HM0
 clear HK
 go_enter Tryz.func191,Tryz.ntmps191
 go_upto_region 2 with(first
   | (go_at_call 74;refine(q_kindk h hk kt).mono ?_;rintro e w1 ⟨rfl,h1,pf1⟩;have p1:=p0.trans pf1;clear kt)
   | (go_at_call 75;refine(q_next h1 HM0).mono ?_;rintro e w2 (⟨rfl,hr,pf2⟩|⟨n,a2,rfl,hin2,hk2,h2,pf2,HM2⟩);exact⟨rfl,VOut.pan hr (p1.trans pf2)⟩;have p2:=p1.trans pf2;have ok2:=h2.ok _ hin2;clear HM0;have bxn:=Blk.new w2 #[.int .i64 n.kind,.int .i64 n.at',.int .i64 n.kids,.string ⟨n.text.toArray⟩,.int .i64 n.int,.int .u64 n.bits] 40;obtain⟨ncn,nzn,nsetn,nbn⟩:=bxn.rules;have hnen:w2.heap.size≠S.bp:=(by have:=h2.lt;omega);have h3:=h2.alloc (.cells #[.int .i64 n.kind,.int .i64 n.at',.int .i64 n.kids,.string ⟨n.text.toArray⟩,.int .i64 n.int,.int .u64 n.bits] 40);have p3:=p2.trans (QS.fr0 h2 ((Fr.refl _ _).alloc (.cells #[.int .i64 n.kind,.int .i64 n.at',.int .i64 n.kids,.string ⟨n.text.toArray⟩,.int .i64 n.int,.int .u64 n.bits] 40)))))
 cases e10:(kk==10)
 rotate_left
 ·skip
  have HM4:=q_ite_pos (by simp[e10]) HM2
  clear HM2
  go_upto_if 16 with(first
    | (go_at_call 48;refine(fit_any (n.kids==2) _).mono ?_;rintro e w5 (⟨hb5,rfl,rfl⟩|⟨hb5,rfl,rfl⟩);have HM5:=(q_fit HM4).1 hb5;rotate_left;exact⟨rfl,VOut.pan ((q_fit HM4).2 hb5) p3⟩;clear HM4))
  cases et:n.text.isEmpty
  ·skip
   have HM6:=q_ite_pos (ne_nil_of et) HM5
   clear HM5
   go_wp2_with (first
     | (go_at_call 104;refine(q_namec h3 ok2.text HM6).mono ?_;rintro e w7 (⟨rfl,hr,pf7⟩|⟨rfl,h7,pf7,HM7⟩);exact⟨rfl,VOut.pan hr (p3.trans pf7)⟩;have p7:=p3.trans pf7;have bxn:=QS.blkOn h3 pf7 bxn (by decide) hnen;obtain⟨ncn,nzn,nsetn,nbn⟩:=bxn.rules;clear HM6)
     | (go_at_call 76;refine(q_putc (l:=[n.text,[58]]) h7 HM7 rfl (by simp) (by first|rfl|simp)).mono ?_;rintro e w8 ⟨rfl,h8,pf8,HM8⟩;have p8:=p7.trans pf8;have bxn:=QS.blkOn h7 pf8 bxn (by decide) hnen;obtain⟨ncn,nzn,nsetn,nbn⟩:=bxn.rules;clear HM7)
     | (go_at_call 76;refine(q_putc (l:=[[119,104,105,108,101]]) h8 HM8 rfl (by simp) (by first|rfl|simp)).mono ?_;rintro e w9 ⟨rfl,h9,pf9,HM9⟩;have p9:=p8.trans pf9;have bxn:=QS.blkOn h8 pf9 bxn (by decide) hnen;obtain⟨ncn,nzn,nsetn,nbn⟩:=bxn.rules;clear HM8)
     | (go_at_call 187;refine(q_call ihe h9 HM9).mono ?_;rintro e w10 (⟨rfl,hr,pf10⟩|⟨u10,a10,toks10,rfl,h10,pf10,HM10⟩);exact⟨rfl,VOut.pan hr (p9.trans pf10)⟩;simp only[unitV];have p10:=p9.trans pf10;have bxn:=QS.blkOn h9 pf10 bxn (by decide) hnen;obtain⟨ncn,nzn,nsetn,nbn⟩:=bxn.rules;clear HM9)
     | (go_at_call 105;refine(q_call ihb h10 (q_last HM10)).mono ?_;rintro e w11 (⟨rfl,hr,pf11⟩|⟨u11,a11,toks11,rfl,h11,pf11,HM11⟩);exact⟨rfl,VOut.pan hr (p10.trans pf11)⟩;simp only[unitV];have p11:=p10.trans pf11;have bxn:=QS.blkOn h10 pf11 bxn (by decide) hnen;obtain⟨ncn,nzn,nsetn,nbn⟩:=bxn.rules;clear HM10))
   go_end0
   exact VOut.ret (y:=()) HM11 h11 p11
  ·skip
   have HM6:=q_ite_neg (eq_nil_of et) HM5
   clear HM5
   go_wp2_with (first
     | (go_at_call 76;refine(q_putc (l:=[[119,104,105,108,101]]) h3 HM6 rfl (by simp) (by first|rfl|simp)).mono ?_;rintro e w7 ⟨rfl,h7,pf7,HM7⟩;have p7:=p3.trans pf7;have bxn:=QS.blkOn h3 pf7 bxn (by decide) hnen;obtain⟨ncn,nzn,nsetn,nbn⟩:=bxn.rules;clear HM6)
     | (go_at_call 187;refine(q_call ihe h7 HM7).mono ?_;rintro e w8 (⟨rfl,hr,pf8⟩|⟨u8,a8,toks8,rfl,h8,pf8,HM8⟩);exact⟨rfl,VOut.pan hr (p7.trans pf8)⟩;simp only[unitV];have p8:=p7.trans pf8;have bxn:=QS.blkOn h7 pf8 bxn (by decide) hnen;obtain⟨ncn,nzn,nsetn,nbn⟩:=bxn.rules;clear HM7)
     | (go_at_call 105;refine(q_call ihb h8 (q_last HM8)).mono ?_;rintro e w9 (⟨rfl,hr,pf9⟩|⟨u9,a9,toks9,rfl,h9,pf9,HM9⟩);exact⟨rfl,VOut.pan hr (p8.trans pf9)⟩;simp only[unitV];have p9:=p8.trans pf9;have bxn:=QS.blkOn h8 pf9 bxn (by decide) hnen;obtain⟨ncn,nzn,nsetn,nbn⟩:=bxn.rules;clear HM8))
   go_end0
   exact VOut.ret (y:=()) HM9 h9 p9
 ·skip
  have HM4:=q_ite_neg (by simp[e10]) HM2
  clear HM2
  go_upto_region 9 with(fail)
  cases c3:(n.kids==3)
  rotate_left
  ·have c4:(n.kids==4)=false:=by have:=beq_iff_eq.1 c3;rw[this];rfl
   have HM5:=(q_fit HM4).1 (by simp[c3])
   clear HM4
   have HM6:=q_ite_neg (by simp[c4]) HM5
   clear HM5
   go_wp2_with (first
     | (go_at_call 48;with_reducible refine(fit_yes _).mono ?_;rintro e w7 ⟨rfl,rfl⟩)
     | (go_at_call 104;refine(q_namec h3 ok2.text HM6).mono ?_;rintro e w8 (⟨rfl,hr,pf8⟩|⟨rfl,h8,pf8,HM8⟩);exact⟨rfl,VOut.pan hr (p3.trans pf8)⟩;have p8:=p3.trans pf8;have bxn:=QS.blkOn h3 pf8 bxn (by decide) hnen;obtain⟨ncn,nzn,nsetn,nbn⟩:=bxn.rules;clear HM6)
     | (go_at_call 76;refine(q_putc (l:=[[102,111,114],n.text,[105,110]]) h8 HM8 rfl (by simp) (by first|rfl|simp)).mono ?_;rintro e w9 ⟨rfl,h9,pf9,HM9⟩;have p9:=p8.trans pf9;have bxn:=QS.blkOn h8 pf9 bxn (by decide) hnen;obtain⟨ncn,nzn,nsetn,nbn⟩:=bxn.rules;clear HM8)
     | (go_at_call 187;refine(q_call ihe h9 HM9).mono ?_;rintro e w10 (⟨rfl,hr,pf10⟩|⟨u10,a10,toks10,rfl,h10,pf10,HM10⟩);exact⟨rfl,VOut.pan hr (p9.trans pf10)⟩;simp only[unitV];have p10:=p9.trans pf10;have bxn:=QS.blkOn h9 pf10 bxn (by decide) hnen;obtain⟨ncn,nzn,nsetn,nbn⟩:=bxn.rules;clear HM9)
     | (go_at_call 76;refine(q_putc (l:=[[46,46]]) h10 HM10 rfl (by simp) (by first|rfl|simp)).mono ?_;rintro e w11 ⟨rfl,h11,pf11,HM11⟩;have p11:=p10.trans pf11;have bxn:=QS.blkOn h10 pf11 bxn (by decide) hnen;obtain⟨ncn,nzn,nsetn,nbn⟩:=bxn.rules;clear HM10)
     | (go_at_call 187;refine(q_call ihe h11 HM11).mono ?_;rintro e w12 (⟨rfl,hr,pf12⟩|⟨u12,a12,toks12,rfl,h12,pf12,HM12⟩);exact⟨rfl,VOut.pan hr (p11.trans pf12)⟩;simp only[unitV];have p12:=p11.trans pf12;have bxn:=QS.blkOn h11 pf12 bxn (by decide) hnen;obtain⟨ncn,nzn,nsetn,nbn⟩:=bxn.rules;clear HM11)
     | (go_at_call 105;refine(q_call ihb h12 (q_last HM12)).mono ?_;rintro e w13 (⟨rfl,hr,pf13⟩|⟨u13,a13,toks13,rfl,h13,pf13,HM13⟩);exact⟨rfl,VOut.pan hr (p12.trans pf13)⟩;simp only[unitV];have p13:=p12.trans pf13;have bxn:=QS.blkOn h12 pf13 bxn (by decide) hnen;obtain⟨ncn,nzn,nsetn,nbn⟩:=bxn.rules;clear HM12))
   go_end0
   exact VOut.ret (y:=()) HM13 h13 p13
  cases c4:(n.kids==4)
  rotate_left
  ·skip
   have HM5:=(q_fit HM4).1 (by simp[c4])
   clear HM4
   have HM6:=q_ite_pos c4 HM5
   clear HM5
   go_wp2_with (first
     | (go_at_call 48;with_reducible refine(fit_yes _).mono ?_;rintro e w7 ⟨rfl,rfl⟩)
     | (go_at_call 77;refine(q_call (qnamed_any 12 0) h3 HM6).mono ?_;rintro e w8 (⟨rfl,hr,pf8⟩|⟨lab,a8,toks8,rfl,h8,pf8,HM8⟩);exact⟨rfl,VOut.pan hr (p3.trans pf8)⟩;simp only[strV];have p8:=p3.trans pf8;have bxn:=QS.blkOn h3 pf8 bxn (by decide) hnen;obtain⟨ncn,nzn,nsetn,nbn⟩:=bxn.rules;clear HM6)
     | (go_at_call 76;refine(q_putc (l:=[lab,[58]]) h8 HM8 rfl (by simp) (by first|rfl|simp)).mono ?_;rintro e w9 ⟨rfl,h9,pf9,HM9⟩;have p9:=p8.trans pf9;have bxn:=QS.blkOn h8 pf9 bxn (by decide) hnen;obtain⟨ncn,nzn,nsetn,nbn⟩:=bxn.rules;clear HM8)
     | (go_at_call 104;refine(q_namec h9 ok2.text HM9).mono ?_;rintro e w10 (⟨rfl,hr,pf10⟩|⟨rfl,h10,pf10,HM10⟩);exact⟨rfl,VOut.pan hr (p9.trans pf10)⟩;have p10:=p9.trans pf10;have bxn:=QS.blkOn h9 pf10 bxn (by decide) hnen;obtain⟨ncn,nzn,nsetn,nbn⟩:=bxn.rules;clear HM9)
     | (go_at_call 76;refine(q_putc (l:=[[102,111,114],n.text,[105,110]]) h10 HM10 rfl (by simp) (by first|rfl|simp)).mono ?_;rintro e w11 ⟨rfl,h11,pf11,HM11⟩;have p11:=p10.trans pf11;have bxn:=QS.blkOn h10 pf11 bxn (by decide) hnen;obtain⟨ncn,nzn,nsetn,nbn⟩:=bxn.rules;clear HM10)
     | (go_at_call 187;refine(q_call ihe h11 HM11).mono ?_;rintro e w12 (⟨rfl,hr,pf12⟩|⟨u12,a12,toks12,rfl,h12,pf12,HM12⟩);exact⟨rfl,VOut.pan hr (p11.trans pf12)⟩;simp only[unitV];have p12:=p11.trans pf12;have bxn:=QS.blkOn h11 pf12 bxn (by decide) hnen;obtain⟨ncn,nzn,nsetn,nbn⟩:=bxn.rules;clear HM11)
     | (go_at_call 76;refine(q_putc (l:=[[46,46]]) h12 HM12 rfl (by simp) (by first|rfl|simp)).mono ?_;rintro e w13 ⟨rfl,h13,pf13,HM13⟩;have p13:=p12.trans pf13;have bxn:=QS.blkOn h12 pf13 bxn (by decide) hnen;obtain⟨ncn,nzn,nsetn,nbn⟩:=bxn.rules;clear HM12)
     | (go_at_call 187;refine(q_call ihe h13 HM13).mono ?_;rintro e w14 (⟨rfl,hr,pf14⟩|⟨u14,a14,toks14,rfl,h14,pf14,HM14⟩);exact⟨rfl,VOut.pan hr (p13.trans pf14)⟩;simp only[unitV];have p14:=p13.trans pf14;have bxn:=QS.blkOn h13 pf14 bxn (by decide) hnen;obtain⟨ncn,nzn,nsetn,nbn⟩:=bxn.rules;clear HM13)
     | (go_at_call 105;refine(q_call ihb h14 (q_last HM14)).mono ?_;rintro e w15 (⟨rfl,hr,pf15⟩|⟨u15,a15,toks15,rfl,h15,pf15,HM15⟩);exact⟨rfl,VOut.pan hr (p14.trans pf15)⟩;simp only[unitV];have p15:=p14.trans pf15;have bxn:=QS.blkOn h14 pf15 bxn (by decide) hnen;obtain⟨ncn,nzn,nsetn,nbn⟩:=bxn.rules;clear HM14))
   go_end0
   exact VOut.ret (y:=()) HM15 h15 p15
  ·have hrn:=Lib.hid ((q_fit HM4).2 (by simp[c3,c4]))
   go_wp2_with (first
     | (go_at_call 48;with_reducible refine(fit_no _).mono ?_;rintro e w5 ⟨rfl,rfl⟩))
   exact⟨rfl,VOut.pan hrn.out p3⟩
end
end Go.Proofs.YtoomapkcoibmhaaGreatDoor
end
