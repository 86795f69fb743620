/- A part of the proof. -/
import Derived.Test.YtoomapkcoibmhaaGreatDoorQ23
set_option maxRecDepth 100000
set_option maxHeartbeats 12800000
set_option linter.all false
section
open Go Go.Proofs Go.RowKit Ck
namespace Go.Proofs.YtoomapkcoibmhaaGreatDoor
theorem J6 {s:Bytes} (h:(aM s).2.code≠0):iF s=false:=by
 unfold iF;split
 ·rename_i t f he;rw[he]at h;simp only at h;simp[h]
 ·rfl
theorem AL {s:Bytes} (h:(aM s).1.length≠2):iF s=false:=by
 unfold iF;split
 ·rename_i t f he;rw[he]at h;simp at h
 ·rfl
def RL (w:World) (s:Bytes) (e:Ending) (w':World):Prop:=((iF s=true∧e=.returned (Fb s))∨(iF s=false∧e=Vz))∧Fr [] w w'
theorem M5 (s:Bytes) (w:World) (hV:Vars w) (hs:s.length≤140737488351232):Calls Tryz.prog 104 #[.string ⟨s.toArray⟩] w (RL w s):=by
 have ha:=RJ s w hV hs;by_cases hc:(aM s).2.code=0
 ·by_cases hl:(aM s).1.length=2
  ·obtain⟨t,t2,htt⟩:∃t t2,(aM s).1=[t,t2]:=by
    match h:(aM s).1,hl with
    | [t,t2],_=>exact⟨t,t2,rfl⟩
   have hok:iF s=(t.kind==1&&t.text==s):=by
    unfold iF;rw[show aM s=([t,t2],(aM s).2)from Prod.ext htt rfl];simp[hc]
   have ha2:Calls Tryz.prog 156 #[.string ⟨s.toArray⟩] w (fun e w'=>Fr [] w w'∧∃g c,e=.returned (.tuple #[.slice (some ⟨g,0,none⟩) 2 c,.agg #[.int .i64 0,.int .i64 0]])∧g<w'.heap.size∧w'.cell? ⟨g,0,none⟩=some (.int .i64 t.kind)∧w'.cell? ⟨g,2,none⟩=some (.string ⟨t.text.toArray⟩)):=by
    refine ha.mono ?_;rintro e w' ⟨hf,⟨_,v,rfl,hown⟩|⟨hne,_⟩⟩
    ·rw[htt]at hown
     obtain⟨g,c,rfl⟩:=ownsRow_succ (k:=1) hown
     refine⟨hf,g,c,rfl,(hown.lt g rfl).2,?_,?_⟩
     ·have:=hown.cells (g:=g) rfl 0 (.int .i64 t.kind) (by simp[lK,ql])
      rw[add0]at this;exact this
     ·have:=hown.cells (g:=g) rfl 2 (.string ⟨t.text.toArray⟩) (by simp[lK,ql])
      rw[add0]at this;exact this
    ·exact absurd hc hne
   have HO:=Lib.hid hok;clear ha hc hl htt hok;go_enter Tryz.func104,Tryz.ntmps104
   go_wp2_with (first|(go_at_call 156;refine ha2.mono ?_;rintro e w1 ⟨hf,g,c,rfl,hg,k0,k2⟩;have hgk:∀k,g<w1.heap.size+k:=fun k=>by omega)|(go_at_call 48;with_reducible refine(jE _).mono ?_;rintro e w2 ⟨rfl,rfl⟩)|(go_at_call 48;refine(iY _ _).mono ?_;rintro e w2 (⟨hb,rfl,rfl⟩|⟨hb,rfl,rfl⟩)))
   ·go_ret;refine⟨.inl ⟨?_,rfl⟩,?_⟩
    ·rw[HO.out,Bool.and_eq_true];exact⟨beq_iff_eq.2 (by assumption),hb⟩
    ·repeat (first|exact hf|refine Fr.alloc ?_ _)
   ·refine⟨rfl,.inr ⟨?_,rfl⟩,?_⟩
    ·rw[HO.out];simp[hb]
    ·repeat (first|exact hf|refine Fr.alloc ?_ _)
   ·refine⟨rfl,.inr ⟨?_,rfl⟩,?_⟩
    ·rw[HO.out];simp[*]
    ·repeat (first|exact hf|refine Fr.alloc ?_ _)
  ·have HO:=Lib.hid (AL hl)
   have ha2:Calls Tryz.prog 156 #[.string ⟨s.toArray⟩] w (fun e w'=>Fr [] w w'∧∃x n c,e=.returned (.tuple #[.slice x n c,.agg #[.int .i64 0,.int .i64 0]])∧Hid (n≠2)):=by
    refine ha.mono ?_;rintro e w' ⟨hf,⟨_,v,rfl,hown⟩|⟨hne,_⟩⟩
    ·rcases hown.2 with⟨rfl,h0⟩|⟨g,cap,cur,rfl,_⟩
     ·exact⟨hf,_,_,_,rfl,by show _≠_;omega⟩
     ·exact⟨hf,_,_,_,rfl,hl⟩
    ·exact absurd hc hne
   clear ha hc hl;go_enter Tryz.func104,Tryz.ntmps104
   go_wp2_with (first|(go_at_call 156;refine ha2.mono ?_;rintro e w1 ⟨hf,x,n,c,rfl,hn⟩;have hn2:((n:Int)==2)=false:=(by have:=hn.out;simp;omega);have hn3:(n==2)=false:=(by have:=hn.out;simpa using this))|(go_at_call 48;with_reducible refine(jE _).mono ?_;rintro e w2 ⟨rfl,rfl⟩))
   refine⟨rfl,.inr ⟨HO.out,rfl⟩,?_⟩
   repeat (first|exact hf|refine Fr.alloc ?_ _)
 ·have HO:=Lib.hid (J6 hc)
  have ha2:Calls Tryz.prog 156 #[.string ⟨s.toArray⟩] w (fun e w'=>Fr [] w w'∧e=.returned (.tuple #[.slice none 0 0,.agg #[.int .i64 (aM s).2.code,.int .i64 (aM s).2.at']])):=by
   refine ha.mono ?_;rintro e w' ⟨hf,⟨h0,_⟩|⟨_,rfl⟩⟩
   ·exact absurd h0 hc
   ·exact⟨hf,rfl⟩
  clear ha hc;go_enter Tryz.func104,Tryz.ntmps104
  go_wp2_with (first|(go_at_call 156;refine ha2.mono ?_;rintro e w1 ⟨hf,rfl⟩)|(go_at_call 48;with_reducible refine(jE _).mono ?_;rintro e w2 ⟨rfl,rfl⟩))
  refine⟨rfl,.inr ⟨HO.out,rfl⟩,?_⟩
  repeat (first|exact hf|refine Fr.alloc ?_ _)
section
variable {α β:Type} {S:zm} {a:Nat} {toks:List Bytes} {w:World} {st:List Ck.Node × List Bytes} {r:Option (β × (List Ck.Node × List Bytes))}
theorem bU {m:Pr β} (h:Hid (m st=some r)):Hid ((m >>= pure) st=some r):=by
 show _=_;rw[Pr.bind_eq,Pr.bind,h.out];cases r with
 | none=>rfl
 | some p=>rfl
theorem fq {k:Int→Pr β} (h:Hid ((mP >>= k) st=some r)):Hid (k (nk st.1) st=some r):=h
theorem dP {b:Bool} {k:Unit→Pr β} (h:Hid ((fit b >>= k) st=some r)):(b=true→Hid (k () st=some r))∧(b=false→r=none):=by
 refine⟨fun e=>?_,fun e=>?_⟩
 ·subst e;exact h
 ·subst e
  have:=h.out
  simpa[Pr.bind_eq,Pr.bind,fit]using this.symm
theorem Tm {l:List Bytes} {rest:List Ck.Node} {k:Unit→Pr β} (h:Hid ((put l >>= k) (rest,toks)=some r)):tw (toks++l)≤wV∧Hid (k () (rest,toks++l)=some r):=by
 have h:=h.out;rw[Pr.bind_eq]at h
 unfold Pr.bind put at h;simp only at h;by_cases hw:tw (toks++l)≤wV
 ·rw[if_pos hw]at h;exact⟨hw,h⟩
 ·rw[if_neg hw]at h;cases h
theorem Pt {s:Bytes} {k:Bytes→Pr β} (h:Hid ((nameP s >>= k) st=some r)):(iF s=true→Hid (k s st=some r))∧(iF s=false→r=none):=by
 refine⟨fun e=>?_,fun e=>?_⟩
 ·have h:=h.out;simp only[nameP,Pr.bind_eq,Pr.bind,fit,e,if_true]at h;exact h
 ·have h:=h.out;simp only[nameP,Pr.bind_eq,Pr.bind,fit,e,Bool.false_eq_true,if_false]at h;simpa using h.symm
theorem bB {c:Prop} [Decidable c] {x y:Pr β} (hc:c) (h:Hid ((if c then x else y) st=some r)):Hid (x st=some r):=by rw[if_pos hc]at h;exact h
theorem ak {c:Prop} [Decidable c] {x y:Pr β} (hc:¬c) (h:Hid ((if c then x else y) st=some r)):Hid (y st=some r):=by rw[if_neg hc]at h;exact h
theorem aX {fn:Nat} {args:List Value} {val:α→Value} {m:Pr α} {k:α→Pr β} (ih:MP fn args S val m) (h:QS S a toks w) (hm:Hid ((m >>= k) (S.l.drop a,toks)=some r)) :
  Calls Tryz.prog fn (List.toArray (.pointer (some ⟨S.bp,0,none⟩)::args)) w (fun e w'=>(e=.panicked [{ v:=.iface 91 (.agg #[]),recovered:=false }]∧r=none∧Pf S.bp w w') ∨
   ∃y a' rJ,e=.returned (val y)∧QS S a' rJ w'∧Pf S.bp w w'∧Hid (k y (S.l.drop a',rJ)=some r)):=by
 rcases Ti hm with⟨h1,h2⟩|⟨y,s',h1,h2⟩
 ·refine(ih a toks w none h h1).mono ?_
  rintro e w' (⟨_,he,hb⟩|⟨y,a',rJ,e1,_⟩)
  ·exact .inl ⟨he,h2,hb⟩
  ·cases e1
 ·refine(ih a toks w (some (y,s')) h h1).mono ?_
  rintro e w' (⟨e1,_⟩|⟨y',a',rJ,e1,he,hps,hb⟩)
  ·cases e1
  ·cases e1;exact .inr ⟨y,a',rJ,he,hps,hb,h2⟩
theorem aI.eD {val:β→Value} {w w':World} (hr:r=none) (hb:Pf S.bp w w'):aI S w val r (.panicked [{ v:=.iface 91 (.agg #[]),recovered:=false }]) w':=.inl ⟨hr,rfl,hb⟩
theorem aI.ret {val:β→Value} {w w':World} {y:β} (hr:Hid ((pure y:Pr β) (S.l.drop a,toks)=some r)) (h:QS S a toks w') (hb:Pf S.bp w w'):aI S w val r (.returned (val y)) w':=by
 have:=hr.out
 rw[Pr.aZ]at this
 exact .inr ⟨y,a,toks,by simpa using this.symm,rfl,h,hb⟩
theorem QS.yJ (h:QS S a toks w) {w':World} (hf:Fr [] w w'):Pf S.bp w w':=Pf.aC hf h.lt
end
theorem J7 (P:Program) (w:World) (cs:Array Value):(asAgg (.agg cs)).run P w=.ok cs w:=rfl
@[go_sem] theorem RN (a b c d e f:Value) (w:World):(Instr.field 40 (.agg #[a,b,c,d,e,f]) 2).run Tryz.prog w=.ok c w:=by
 simp[Instr.field,go_sem,J7]
section
variable {β:Type} {S:zm} {a:Nat} {toks:List Bytes} {w:World} {st:List Ck.Node × List Bytes} {r:Option (β × (List Ck.Node × List Bytes))}
theorem vX {α γ:Type} {x:Pr α} {f:α→Pr γ} {g:γ→Pr β} (h:Hid (((x >>= f) >>= g) st=some r)):Hid ((x >>= fun y=>f y >>= g) st=some r):=by
 have h:=h.out;show _=_;rw[←h];simp only[Pr.bind_eq,Pr.bind];cases x st with
 | none=>rfl
 | some o=>cases o<;>rfl
theorem J8 {x:Pr Unit} {k:Unit→Pr β} (h:Hid ((uJ x 0 >>= k) st=some r)):Hid (k () st=some r):=h
theorem J9 {x:Pr Unit} {n:Nat} {k:Unit→Pr β} (h:Hid ((uJ x (n+1) >>= k) st=some r)):Hid ((x >>= fun _=>(uJ x n >>= k)) st=some r):=vX h
theorem kH {t u v:Bool} {k:Ck.Node→Pr β} (h:QS S a toks w) (hm:Hid ((jw t u v >>= k) (S.l.drop a,toks)=some r)) :
  Calls Tryz.prog 75 #[.pointer (some ⟨S.bp,0,none⟩),.bool t,.bool u,.bool v] w (fun e w'=>(e=.panicked [{ v:=.iface 91 (.agg #[]),recovered:=false }]∧r=none∧Pf S.bp w w') ∨
   ∃n a',e=.returned (.agg #[.int .i64 n.kind,.int .i64 n.at',.int .i64 n.kids,.string ⟨n.text.toArray⟩,.int .i64 n.int,.int .u64 n.bits])∧n∈S.l∧0≤n.kids∧QS S a' toks w'∧Pf S.bp w w'∧Hid (k n (S.l.drop a',toks)=some r)):=by
 rcases Ti hm with⟨h1,h2⟩|⟨y,s',h1,h2⟩
 ·refine(xA t u v a toks w none h h1).mono ?_
  rintro e w' (⟨_,he,hb⟩|⟨y,a',rJ,e1,_⟩)
  ·exact .inl ⟨he,h2,hb⟩
  ·cases e1
 ·have hy:y∈S.l∧0≤y.kids∧s'.2=toks:=by
   cases hd:S.l.drop a with
   | nil=>rw[hd]at h1;cases h1
   | cons n l =>
    rw[hd,Ai]at h1
    split at h1
    ·rename_i hf;cases h1;refine⟨List.mem_of_mem_drop (i:=a) (by rw[hd];simp),?_,rfl⟩;unfold fits at hf;simp only[Bool.and_eq_true,decide_eq_true_eq]at hf;exact hf.1.1.1
    ·cases h1
  refine(xA t u v a toks w (some (y,s')) h h1).mono ?_
  rintro e w' (⟨e1,_⟩|⟨y',a',rJ,e1,he,hps,hb⟩)
  ·cases e1
  ·cases e1;obtain⟨q1,q2,q3⟩:=hy
   obtain rfl:rJ=toks:=q3;exact .inr ⟨y,a',he,q1,q2,hps,hb,h2⟩
theorem pO {s:Bytes} {k:Bytes→Pr β} (h:QS S a toks w) (hs:s.length≤140737488351232) (hm:Hid ((nameP s >>= k) st=some r)) :
  Calls Tryz.prog 104 #[.string ⟨s.toArray⟩] w (fun e w'=>(e=.panicked [{ v:=.iface 91 (.agg #[]),recovered:=false }]∧r=none∧Pf S.bp w w') ∨
   (e=.returned (.string ⟨s.toArray⟩)∧QS S a toks w'∧Pf S.bp w w'∧Hid (k s st=some r))):=by
 refine(M5 s w h.vars hs).mono ?_
 rintro e w' ⟨⟨hok,rfl⟩|⟨hok,rfl⟩,hf⟩
 ·exact .inr ⟨rfl,h.fr hf,h.yJ hf,(Pt hm).1 hok⟩
 ·exact .inl ⟨rfl,(Pt hm).2 hok,h.yJ hf⟩
theorem aV {l:List Bytes} {k:Unit→Pr β} (h:QS S a toks w) (hm:Hid ((put l >>= k) (S.l.drop a,toks)=some r)) {cs:Array Value} (hcs:cs=(l.map fun x=>Value.string ⟨x.toArray⟩).toArray) (hl:l≠[]) {z:Nat} (hz:w.heap.size=z) :
  Calls Tryz.prog 76 #[.pointer (some ⟨S.bp,0,none⟩),.slice (some ⟨z,0,none⟩) l.length l.length] (w.alloc (.cells cs 9)) (fun e w'=>e=.returned (.tuple #[])∧QS S a (toks++l) w'∧Pf S.bp w w'∧Hid (k () (S.l.drop a,toks++l)=some r)):=by
 subst hcs;subst hz;obtain⟨h1,h2⟩:=Tm hm
 refine(O8 (h.alloc _) _ l (Rx w l) hl h1).mono ?_
 rintro e w' ⟨rfl,hq,hp⟩;exact⟨rfl,hq,(h.yJ ((Fr.refl _ _).alloc _)).trans hp,h2⟩
theorem zq {k:Int→Pr β} (h:QS S a toks w) (hm:Hid ((mP >>= k) (S.l.drop a,toks)=some r)) :
  Calls Tryz.prog 74 #[.pointer (some ⟨S.bp,0,none⟩)] w (fun e w'=>e=.returned (.int .i64 (nk (S.l.drop a)))∧QS S a toks w'∧Pf S.bp w w'∧Hid (k (nk (S.l.drop a)) (S.l.drop a,toks)=some r)) :=
 (xu h).mono fun _ _ ⟨he,hf⟩=>⟨he,h.fr hf,h.yJ hf,hm⟩
end
section
variable {S:zm}
theorem jl (kind kids:Int):MP 188 [.int .i64 kind,.int .i64 kids] S aY (oh kind kids):=by
 intro a toks w r h HM;unfold oh at HM;have HM:=fq HM;have hbel:=Pf.refl S.bp w;go_enter Tryz.func188,Tryz.ntmps188
 go_wp2_with (first
  | (go_at_call 74;refine(xu h).mono ?_;rintro e w1 ⟨rfl,hf1⟩;have h1:=h.fr hf1;have hb1:=hbel.trans (h.yJ hf1))
  | (go_at_call 48;refine(iY (nk (S.l.drop a)==kind) _).mono ?_;rintro e w2 (⟨hb,rfl,rfl⟩|⟨hb,rfl,rfl⟩);have dD:=(dP HM).1 hb;rotate_left;exact⟨rfl,aI.eD ((dP HM).2 hb) hb1⟩)
  | (go_at_call 75;refine(aX (xA false false false) h1 dD).mono ?_;rintro e w3 (⟨rfl,hr,hb3⟩|⟨n,a3,AO,rfl,h3,hb3,dW⟩);exact⟨rfl,aI.eD hr (hb1.trans hb3)⟩;simp only[Ah])
  | (go_at_call 48;refine(iY (n.kids==kids) _).mono ?_;rintro e w4 (⟨hb,rfl,rfl⟩|⟨hb,rfl,rfl⟩);have gW:=(dP (bU dW)).1 hb;rotate_left;exact⟨rfl,aI.eD ((dP (bU dW)).2 hb) (hb1.trans hb3)⟩))
 go_end0
 exact aI.ret (y:=()) gW h3 (hb1.trans hb3)
end
section
variable {S:zm}
theorem kI (kind kids:Int):MP 77 [.int .i64 kind,.int .i64 kids] S Fb (jo kind kids):=by
 intro a toks w r h HM;unfold jo at HM;have p0:=Pf.refl S.bp w;go_enter Tryz.func77,Tryz.ntmps77
 go_wp2_with (first
   | (go_at_call 74;refine(zq h HM).mono ?_;rintro e w1 ⟨rfl,h1,xE,d9⟩;have p1:=p0.trans xE;clear HM)
   | (go_at_call 48;refine(iY (nk (S.l.drop a)==kind) _).mono ?_;rintro e w2 (⟨hb2,rfl,rfl⟩|⟨hb2,rfl,rfl⟩);have dD:=(dP d9).1 hb2;rotate_left;exact⟨rfl,aI.eD ((dP d9).2 hb2) p1⟩;clear d9)
   | (go_at_call 75;refine(kH h1 dD).mono ?_;rintro e w3 (⟨rfl,hr,nA⟩|⟨n,a3,rfl,M6,hk3,h3,nA,dW⟩);exact⟨rfl,aI.eD hr (p1.trans nA)⟩;have p3:=p1.trans nA;have Tn:=h3.ok _ M6;clear dD;have bn:=au.new w3 #[.int .i64 n.kind,.int .i64 n.at',.int .i64 n.kids,.string ⟨n.text.toArray⟩,.int .i64 n.int,.int .u64 n.bits] 40;obtain⟨iy,iJ,aU,iK⟩:=bn.rules;have bZ:w3.heap.size≠S.bp:=(by have:=h3.lt;omega);have h4:=h3.alloc (.cells #[.int .i64 n.kind,.int .i64 n.at',.int .i64 n.kids,.string ⟨n.text.toArray⟩,.int .i64 n.int,.int .u64 n.bits] 40);have p4:=p3.trans (QS.yJ h3 ((Fr.refl _ _).alloc (.cells #[.int .i64 n.kind,.int .i64 n.at',.int .i64 n.kids,.string ⟨n.text.toArray⟩,.int .i64 n.int,.int .u64 n.bits] 40))))
   | (go_at_call 48;refine(iY (n.kids==kids) _).mono ?_;rintro e w5 (⟨hb5,rfl,rfl⟩|⟨hb5,rfl,rfl⟩);have gT:=(dP dW).1 hb5;rotate_left;exact⟨rfl,aI.eD ((dP dW).2 hb5) p4⟩;clear dW)
   | (go_at_call 104;refine(pO h4 Tn.text (bU gT)).mono ?_;rintro e w6 (⟨rfl,hr,pQ⟩|⟨rfl,h6,pQ,iO⟩);exact⟨rfl,aI.eD hr (p4.trans pQ)⟩;have p6:=p4.trans pQ;have bn:=QS.bI h4 pQ bn (by decide) bZ;obtain⟨iy,iJ,aU,iK⟩:=bn.rules;clear gT))
 go_ret;exact aI.ret (y:=n.text) iO h6 p6
theorem xG {r:gG} (dO:dG 187 S r.expr) (x:Bytes):MP 218 [.string ⟨x.toArray⟩] S aY (yu r x):=by
 intro a toks w r h HM;unfold yu at HM;have p0:=Pf.refl S.bp w;go_enter Tryz.func218,Tryz.ntmps218
 go_wp2_with (first
   | (go_at_call 76;refine(aV (l:=[[40]]) h HM rfl (by simp) (by first|rfl|simp)).mono ?_;rintro e w1 ⟨rfl,h1,xE,d9⟩;have p1:=p0.trans xE;clear HM)
   | (go_at_call 187;refine(aX dO h1 d9).mono ?_;rintro e w2 (⟨rfl,hr,uS⟩|⟨u2,a2,Tp,rfl,h2,uS,dD⟩);exact⟨rfl,aI.eD hr (p1.trans uS)⟩;simp only[aY];have p2:=p1.trans uS;clear d9)
   | (go_at_call 76;refine(aV (l:=[x]) h2 dD rfl (by simp) (by first|rfl|simp)).mono ?_;rintro e w3 ⟨rfl,h3,nA,dW⟩;have p3:=p2.trans nA;clear dD)
   | (go_at_call 187;refine(aX dO h3 dW).mono ?_;rintro e w4 (⟨rfl,hr,rM⟩|⟨u4,a4,LM,rfl,h4,rM,gW⟩);exact⟨rfl,aI.eD hr (p3.trans rM)⟩;simp only[aY];have p4:=p3.trans rM;clear dW)
   | (go_at_call 76;refine(aV (l:=[[41]]) h4 (bU gW) rfl (by simp) (by first|rfl|simp)).mono ?_;rintro e w5 ⟨rfl,h5,sD,gT⟩;have p5:=p4.trans sD;clear gW))
 go_end0
 exact aI.ret (y:=()) gT h5 p5
theorem vY {r:gG} (dO:dG 187 S r.expr):dG 189 S (jU r):=by
 intro a toks w r h HM;unfold jU at HM;have p0:=Pf.refl S.bp w;go_enter Tryz.func189,Tryz.ntmps189
 go_wp2_with (first
   | (go_at_call 187;refine(aX dO h HM).mono ?_;rintro e w1 (⟨rfl,hr,xE⟩|⟨u1,a1,VH,rfl,h1,xE,d9⟩);exact⟨rfl,aI.eD hr (p0.trans xE)⟩;simp only[aY];have p1:=p0.trans xE;clear HM)
   | (go_at_call 76;refine(aV (l:=[[91]]) h1 d9 rfl (by simp) (by first|rfl|simp)).mono ?_;rintro e w2 ⟨rfl,h2,uS,dD⟩;have p2:=p1.trans uS;clear d9)
   | (go_at_call 187;refine(aX dO h2 dD).mono ?_;rintro e w3 (⟨rfl,hr,nA⟩|⟨u3,a3,AO,rfl,h3,nA,dW⟩);exact⟨rfl,aI.eD hr (p2.trans nA)⟩;simp only[aY];have p3:=p2.trans nA;clear dD)
   | (go_at_call 76;refine(aV (l:=[[93]]) h3 (bU dW) rfl (by simp) (by first|rfl|simp)).mono ?_;rintro e w4 ⟨rfl,h4,rM,gW⟩;have p4:=p3.trans rM;clear dW))
 go_end0
 exact aI.ret (y:=()) gW h4 p4
end
section
variable {S:zm}
theorem cO {a:Nat} {toks:List Bytes} {w:World} {kk:Int} (h:QS S a toks w) (hk:Hid (nk (S.l.drop a)=kk)) (_t:Hid True) :
  Calls Tryz.prog 74 #[.pointer (some ⟨S.bp,0,none⟩)] w (fun e w'=>e=.returned (.int .i64 kk)∧QS S a toks w'∧Pf S.bp w w') :=
 (xu h).mono fun _ _ ⟨he,hf⟩=>⟨by rw[he,hk.out],h.fr hf,h.yJ hf⟩
theorem Ka {q:gG} (ihs:dG 157 S q.statement):dG 105 S (uK q):=by
 intro a toks w r h HM;unfold uK at HM;have p0:=Pf.refl S.bp w;go_enter Tryz.func105,Tryz.ntmps105
 go_wp2_with (first
   | (go_at_call 74;refine(zq h HM).mono ?_;rintro e w1 ⟨rfl,h1,xE,d9⟩;have p1:=p0.trans xE;clear HM)
   | (go_at_call 48;refine(iY (nk (S.l.drop a)==5) _).mono ?_;rintro e w2 (⟨hb2,rfl,rfl⟩|⟨hb2,rfl,rfl⟩);have dD:=(dP d9).1 hb2;rotate_left;exact⟨rfl,aI.eD ((dP d9).2 hb2) p1⟩;clear d9)
   | (go_at_call 76;refine(aV (l:=[[123]]) h1 dD rfl (by simp) (by first|rfl|simp)).mono ?_;rintro e w3 ⟨rfl,h3,nA,dW⟩;have p3:=p1.trans nA;clear dD)
   | (go_at_call 75;refine(kH h3 dW).mono ?_;rintro e w4 (⟨rfl,hr,rM⟩|⟨n,a4,rfl,VI,hk4,h4,rM,gW⟩);exact⟨rfl,aI.eD hr (p3.trans rM)⟩;have p4:=p3.trans rM;have ok4:=h4.ok _ VI;clear dW))
 have hmax:=ok4.kids;obtain⟨N,hN⟩:∃N:Nat,n.kids=(N:Int):=⟨n.kids.toNat,(Int.toNat_of_nonneg hk4).symm⟩
 rw[hN]at gW hmax ⊢
 simp only[Int.toNat_natCast]at gW;clear hN hk4 ok4 VI;have hH:=h4;have hP:=p4;have hM:=gW;clear h p0 h1 h3 h4 p1 p3 p4 xE nA rM gW hb2
 go_loopg [12] N (fun k c wr=>∃j:Nat,c=.int .i64 j∧Hid (j+k=N∧∃a toks,QS S a toks wr∧Pf S.bp w wr∧Hid ((uJ q.statement k >>= fun _=>put [[125]]) (S.l.drop a,toks)=some r)))
 case atStart=>exact⟨0,rfl,by omega,_,_,hH,hP,hM⟩
 case round =>
  clear hH hP hM;obtain⟨j,rfl,hq⟩:=hrel
  obtain⟨hj,a,toks,h,p0,HM⟩:=hq.out
  clear hq;cases gk with
  | zero =>
   have hlt:¬(j:Int)<N:=by omega
   have HM:=J8 HM
   go_wp2_with (first
     | (go_at_call 76;refine(aV (l:=[[125]]) h (bU HM) rfl (by simp) (by first|rfl|simp)).mono ?_;rintro e w1 ⟨rfl,h1,xE,d9⟩;have p1:=p0.trans xE;clear HM))
   go_end0
   exact aI.ret (y:=()) d9 h1 p1
  | succ k =>
   have hlt:(j:Int)<N:=by omega
   have HM:=J9 HM
   go_wp2_with (first
     | (go_at_call 157;refine(aX ihs h HM).mono ?_;rintro e w1 (⟨rfl,hr,xE⟩|⟨u1,a1,VH,rfl,h1,xE,d9⟩);exact⟨rfl,aI.eD hr (p0.trans xE)⟩;simp only[aY];have p1:=p0.trans xE;clear HM))
   go_roundg k
   case measure=>omega
   case rel=>exact⟨j+1,by go_num,by omega,_,_,h1,p1,d9⟩
theorem G9 {q:gG} (dO:dG 187 S q.expr) (ihb:dG 105 S q.block) (uL:dG 190 S q.choice):dG 190 S (pE q):=by
 intro a toks w r h HM;unfold pE at HM;have p0:=Pf.refl S.bp w;go_enter Tryz.func190,Tryz.ntmps190
 go_upto_region 1 with(first
   | (go_at_call 75;refine(kH h HM).mono ?_;rintro e w1 (⟨rfl,hr,xE⟩|⟨n,a1,rfl,hin1,hk1,h1,xE,d9⟩);exact⟨rfl,aI.eD hr (p0.trans xE)⟩;have p1:=p0.trans xE;have ok1:=h1.ok _ hin1;clear HM;have bn:=au.new w1 #[.int .i64 n.kind,.int .i64 n.at',.int .i64 n.kids,.string ⟨n.text.toArray⟩,.int .i64 n.int,.int .u64 n.bits] 40;obtain⟨iy,iJ,aU,iK⟩:=bn.rules;have bZ:w1.heap.size≠S.bp:=(by have:=h1.lt;omega);have h2:=h1.alloc (.cells #[.int .i64 n.kind,.int .i64 n.at',.int .i64 n.kids,.string ⟨n.text.toArray⟩,.int .i64 n.int,.int .u64 n.bits] 40);have p2:=p1.trans (QS.yJ h1 ((Fr.refl _ _).alloc (.cells #[.int .i64 n.kind,.int .i64 n.at',.int .i64 n.kids,.string ⟨n.text.toArray⟩,.int .i64 n.int,.int .u64 n.bits] 40)))))
 cases c2:(n.kids==2)
 rotate_left
 ·have dW:=(dP d9).1 (by simp[c2]);clear d9
  go_wp2_with (first
    | (go_at_call 48;with_reducible refine(iX _).mono ?_;rintro e w4 ⟨rfl,rfl⟩)
    | (go_at_call 76;refine(aV (l:=[[105,102]]) h2 dW rfl (by simp) (by first|rfl|simp)).mono ?_;rintro e w5 ⟨rfl,h5,sD,gT⟩;have p5:=p2.trans sD;have bn:=QS.bI h2 sD bn (by decide) bZ;obtain⟨iy,iJ,aU,iK⟩:=bn.rules;clear dW)
    | (go_at_call 187;refine(aX dO h5 gT).mono ?_;rintro e w6 (⟨rfl,hr,pQ⟩|⟨u6,a6,He,rfl,h6,pQ,iO⟩);exact⟨rfl,aI.eD hr (p5.trans pQ)⟩;simp only[aY];have p6:=p5.trans pQ;have bn:=QS.bI h5 pQ bn (by decide) bZ;obtain⟨iy,iJ,aU,iK⟩:=bn.rules;clear gT)
    | (go_at_call 105;refine(aX ihb h6 iO).mono ?_;rintro e w7 (⟨rfl,hr,oO⟩|⟨u7,a7,Pv,rfl,h7,oO,kV⟩);exact⟨rfl,aI.eD hr (p6.trans oO)⟩;simp only[aY];have p7:=p6.trans oO;have bn:=QS.bI h6 oO bn (by decide) bZ;obtain⟨iy,iJ,aU,iK⟩:=bn.rules;clear iO))
  go_end0
  exact aI.ret (y:=()) (bB c2 kV) h7 p7
 cases c3:(n.kids==3)
 rotate_left
 ·have dW:=(dP d9).1 (by simp[c3]);clear d9
  go_upto_region 6 with(first
    | (go_at_call 48;with_reducible refine(iX _).mono ?_;rintro e w4 ⟨rfl,rfl⟩)
    | (go_at_call 76;refine(aV (l:=[[105,102]]) h2 dW rfl (by simp) (by first|rfl|simp)).mono ?_;rintro e w5 ⟨rfl,h5,sD,gT⟩;have p5:=p2.trans sD;have bn:=QS.bI h2 sD bn (by decide) bZ;obtain⟨iy,iJ,aU,iK⟩:=bn.rules;clear dW)
    | (go_at_call 187;refine(aX dO h5 gT).mono ?_;rintro e w6 (⟨rfl,hr,pQ⟩|⟨u6,a6,He,rfl,h6,pQ,iO⟩);exact⟨rfl,aI.eD hr (p5.trans pQ)⟩;simp only[aY];have p6:=p5.trans pQ;have bn:=QS.bI h5 pQ bn (by decide) bZ;obtain⟨iy,iJ,aU,iK⟩:=bn.rules;clear gT)
    | (go_at_call 105;refine(aX ihb h6 iO).mono ?_;rintro e w7 (⟨rfl,hr,oO⟩|⟨u7,a7,Pv,rfl,h7,oO,kV⟩);exact⟨rfl,aI.eD hr (p6.trans oO)⟩;simp only[aY];have p7:=p6.trans oO;have bn:=QS.bI h6 oO bn (by decide) bZ;obtain⟨iy,iJ,aU,iK⟩:=bn.rules;clear iO))
  have lY:=ak (by simp[c2]) kV;clear kV
  go_upto_region 7 with(first
    | (go_at_call 76;refine(aV (l:=[[101,108,115,101]]) h7 lY rfl (by simp) (by first|rfl|simp)).mono ?_;rintro e w9 ⟨rfl,h9,nR,lG⟩;have p9:=p7.trans nR;have bn:=QS.bI h7 nR bn (by decide) bZ;obtain⟨iy,iJ,aU,iK⟩:=bn.rules;clear lY))
  have gN:=fq lG;clear lG;cases RO:(nk (S.l.drop a7)==9)
  ·have fV:=ak (by simp[RO]) gN;have kt:Hid True:=trivial;obtain⟨kk,hk,e9⟩:∃kk,Hid (nk (S.l.drop a7)=kk)∧(kk==9)=false:=⟨_,rfl,RO⟩
   clear RO gN
   go_wp2_with (first
     | (go_at_call 74;refine(cO h9 hk kt).mono ?_;rintro e Jd ⟨rfl,h12,iA⟩;have qK:=p9.trans iA;have bn:=QS.bI h9 iA bn (by decide) bZ;obtain⟨iy,iJ,aU,iK⟩:=bn.rules;clear kt)
     | (go_at_call 105;refine(aX ihb h12 (bU fV)).mono ?_;rintro e Rf (⟨rfl,hr,lZ⟩|⟨u13,a13,Kc,rfl,D6,lZ,jr⟩);exact⟨rfl,aI.eD hr (qK.trans lZ)⟩;simp only[aY];have C9:=qK.trans lZ;have bn:=QS.bI h12 lZ bn (by decide) bZ;obtain⟨iy,iJ,aU,iK⟩:=bn.rules;clear fV))
   go_end0
   exact aI.ret (y:=()) jr D6 C9
  ·have fV:=bB (by simp[RO]) gN;have kt:Hid True:=trivial;obtain⟨kk,hk,e9⟩:∃kk,Hid (nk (S.l.drop a7)=kk)∧(kk==9)=true:=⟨_,rfl,RO⟩
   clear RO gN;obtain rfl:kk=9:=by simpa using e9
   go_wp2_with (first
     | (go_at_call 74;refine(cO h9 hk kt).mono ?_;rintro e Jd ⟨rfl,h12,iA⟩;have qK:=p9.trans iA;have bn:=QS.bI h9 iA bn (by decide) bZ;obtain⟨iy,iJ,aU,iK⟩:=bn.rules;clear kt)
     | (go_at_call 190;refine(aX uL h12 (bU fV)).mono ?_;rintro e Rf (⟨rfl,hr,lZ⟩|⟨u13,a13,Kc,rfl,D6,lZ,jr⟩);exact⟨rfl,aI.eD hr (qK.trans lZ)⟩;simp only[aY];have C9:=qK.trans lZ;have bn:=QS.bI h12 lZ bn (by decide) bZ;obtain⟨iy,iJ,aU,iK⟩:=bn.rules;clear fV))
   go_end0
   exact aI.ret (y:=()) jr D6 C9
 ·have hrn:=Lib.hid ((dP d9).2 (by simp[c2,c3]))
  go_wp2_with (first
    | (go_at_call 48;with_reducible refine(jE _).mono ?_;rintro e w3 ⟨rfl,rfl⟩))
  exact⟨rfl,aI.eD hrn.out p2⟩
end
section
variable {S:zm}
theorem xH {s:Bytes} (h:s.isEmpty=false):(s != [])=true:=by cases s<;>simp_all
theorem xI {s:Bytes} (h:s.isEmpty=true):¬(s != [])=true:=by cases s<;>simp_all
theorem M7 {q:gG} (dO:dG 187 S q.expr) (ihb:dG 105 S q.block):dG 191 S (yt q):=by
 intro a toks w r h HM;unfold yt at HM;have p0:=Pf.refl S.bp w;have fM:=fq HM;clear HM;have kt:Hid True:=trivial;obtain⟨kk,hk,HK⟩:∃kk,Hid (nk (S.l.drop a)=kk)∧nk (S.l.drop a)=kk:=⟨_,rfl,rfl⟩
 simp only[HK]at fM;clear HK;go_enter Tryz.func191,Tryz.ntmps191
 go_upto_region 2 with(first
   | (go_at_call 74;refine(cO h hk kt).mono ?_;rintro e w1 ⟨rfl,h1,xE⟩;have p1:=p0.trans xE;clear kt)
   | (go_at_call 75;refine(kH h1 fM).mono ?_;rintro e w2 (⟨rfl,hr,uS⟩|⟨n,a2,rfl,hin2,hk2,h2,uS,dD⟩);exact⟨rfl,aI.eD hr (p1.trans uS)⟩;have p2:=p1.trans uS;have Uf:=h2.ok _ hin2;clear fM;have bn:=au.new w2 #[.int .i64 n.kind,.int .i64 n.at',.int .i64 n.kids,.string ⟨n.text.toArray⟩,.int .i64 n.int,.int .u64 n.bits] 40;obtain⟨iy,iJ,aU,iK⟩:=bn.rules;have bZ:w2.heap.size≠S.bp:=(by have:=h2.lt;omega);have h3:=h2.alloc (.cells #[.int .i64 n.kind,.int .i64 n.at',.int .i64 n.kids,.string ⟨n.text.toArray⟩,.int .i64 n.int,.int .u64 n.bits] 40);have p3:=p2.trans (QS.yJ h2 ((Fr.refl _ _).alloc (.cells #[.int .i64 n.kind,.int .i64 n.at',.int .i64 n.kids,.string ⟨n.text.toArray⟩,.int .i64 n.int,.int .u64 n.bits] 40)))))
 cases e10:(kk==10)
 rotate_left
 ·skip
  have gW:=bB (by simp[e10]) dD;clear dD
  go_upto_if 16 with(first
    | (go_at_call 48;refine(iY (n.kids==2) _).mono ?_;rintro e w5 (⟨hb5,rfl,rfl⟩|⟨hb5,rfl,rfl⟩);have gT:=(dP gW).1 hb5;rotate_left;exact⟨rfl,aI.eD ((dP gW).2 hb5) p3⟩;clear gW))
  cases et:n.text.isEmpty
  ·skip
   have iO:=bB (xH et) gT;clear gT
   go_wp2_with (first
     | (go_at_call 104;refine(pO h3 Uf.text iO).mono ?_;rintro e w7 (⟨rfl,hr,oO⟩|⟨rfl,h7,oO,kV⟩);exact⟨rfl,aI.eD hr (p3.trans oO)⟩;have p7:=p3.trans oO;have bn:=QS.bI h3 oO bn (by decide) bZ;obtain⟨iy,iJ,aU,iK⟩:=bn.rules;clear iO)
     | (go_at_call 76;refine(aV (l:=[n.text,[58]]) h7 kV rfl (by simp) (by first|rfl|simp)).mono ?_;rintro e w8 ⟨rfl,h8,qy,lY⟩;have p8:=p7.trans qy;have bn:=QS.bI h7 qy bn (by decide) bZ;obtain⟨iy,iJ,aU,iK⟩:=bn.rules;clear kV)
     | (go_at_call 76;refine(aV (l:=[[119,104,105,108,101]]) h8 lY rfl (by simp) (by first|rfl|simp)).mono ?_;rintro e w9 ⟨rfl,h9,nR,lG⟩;have p9:=p8.trans nR;have bn:=QS.bI h8 nR bn (by decide) bZ;obtain⟨iy,iJ,aU,iK⟩:=bn.rules;clear lY)
     | (go_at_call 187;refine(aX dO h9 lG).mono ?_;rintro e Cv (⟨rfl,hr,jd⟩|⟨u10,a10,Ke,rfl,h10,jd,gN⟩);exact⟨rfl,aI.eD hr (p9.trans jd)⟩;simp only[aY];have sF:=p9.trans jd;have bn:=QS.bI h9 jd bn (by decide) bZ;obtain⟨iy,iJ,aU,iK⟩:=bn.rules;clear lG)
     | (go_at_call 105;refine(aX ihb h10 (bU gN)).mono ?_;rintro e Kg (⟨rfl,hr,j6⟩|⟨u11,a11,Kh,rfl,h11,j6,fV⟩);exact⟨rfl,aI.eD hr (sF.trans j6)⟩;simp only[aY];have za:=sF.trans j6;have bn:=QS.bI h10 j6 bn (by decide) bZ;obtain⟨iy,iJ,aU,iK⟩:=bn.rules;clear gN))
   go_end0
   exact aI.ret (y:=()) fV h11 za
  ·skip
   have iO:=ak (xI et) gT;clear gT
   go_wp2_with (first
     | (go_at_call 76;refine(aV (l:=[[119,104,105,108,101]]) h3 iO rfl (by simp) (by first|rfl|simp)).mono ?_;rintro e w7 ⟨rfl,h7,oO,kV⟩;have p7:=p3.trans oO;have bn:=QS.bI h3 oO bn (by decide) bZ;obtain⟨iy,iJ,aU,iK⟩:=bn.rules;clear iO)
     | (go_at_call 187;refine(aX dO h7 kV).mono ?_;rintro e w8 (⟨rfl,hr,qy⟩|⟨u8,a8,LP,rfl,h8,qy,lY⟩);exact⟨rfl,aI.eD hr (p7.trans qy)⟩;simp only[aY];have p8:=p7.trans qy;have bn:=QS.bI h7 qy bn (by decide) bZ;obtain⟨iy,iJ,aU,iK⟩:=bn.rules;clear kV)
     | (go_at_call 105;refine(aX ihb h8 (bU lY)).mono ?_;rintro e w9 (⟨rfl,hr,nR⟩|⟨u9,a9,toks9,rfl,h9,nR,lG⟩);exact⟨rfl,aI.eD hr (p8.trans nR)⟩;simp only[aY];have p9:=p8.trans nR;have bn:=QS.bI h8 nR bn (by decide) bZ;obtain⟨iy,iJ,aU,iK⟩:=bn.rules;clear lY))
   go_end0
   exact aI.ret (y:=()) lG h9 p9
 ·skip
  have gW:=ak (by simp[e10]) dD;clear dD
  go_upto_region 9 with(fail)
  cases c3:(n.kids==3)
  rotate_left
  ·have c4:(n.kids==4)=false:=by have:=beq_iff_eq.1 c3;rw[this];rfl
   have gT:=(dP gW).1 (by simp[c3]);clear gW;have iO:=ak (by simp[c4]) gT;clear gT
   go_wp2_with (first
     | (go_at_call 48;with_reducible refine(iX _).mono ?_;rintro e w7 ⟨rfl,rfl⟩)
     | (go_at_call 104;refine(pO h3 Uf.text iO).mono ?_;rintro e w8 (⟨rfl,hr,qy⟩|⟨rfl,h8,qy,lY⟩);exact⟨rfl,aI.eD hr (p3.trans qy)⟩;have p8:=p3.trans qy;have bn:=QS.bI h3 qy bn (by decide) bZ;obtain⟨iy,iJ,aU,iK⟩:=bn.rules;clear iO)
     | (go_at_call 76;refine(aV (l:=[[102,111,114],n.text,[105,110]]) h8 lY rfl (by simp) (by first|rfl|simp)).mono ?_;rintro e w9 ⟨rfl,h9,nR,lG⟩;have p9:=p8.trans nR;have bn:=QS.bI h8 nR bn (by decide) bZ;obtain⟨iy,iJ,aU,iK⟩:=bn.rules;clear lY)
     | (go_at_call 187;refine(aX dO h9 lG).mono ?_;rintro e Cv (⟨rfl,hr,jd⟩|⟨u10,a10,Ke,rfl,h10,jd,gN⟩);exact⟨rfl,aI.eD hr (p9.trans jd)⟩;simp only[aY];have sF:=p9.trans jd;have bn:=QS.bI h9 jd bn (by decide) bZ;obtain⟨iy,iJ,aU,iK⟩:=bn.rules;clear lG)
     | (go_at_call 76;refine(aV (l:=[[46,46]]) h10 gN rfl (by simp) (by first|rfl|simp)).mono ?_;rintro e Kg ⟨rfl,h11,j6,fV⟩;have za:=sF.trans j6;have bn:=QS.bI h10 j6 bn (by decide) bZ;obtain⟨iy,iJ,aU,iK⟩:=bn.rules;clear gN)
     | (go_at_call 187;refine(aX dO h11 fV).mono ?_;rintro e Jd (⟨rfl,hr,iA⟩|⟨u12,a12,Pw,rfl,h12,iA,iB⟩);exact⟨rfl,aI.eD hr (za.trans iA)⟩;simp only[aY];have qK:=za.trans iA;have bn:=QS.bI h11 iA bn (by decide) bZ;obtain⟨iy,iJ,aU,iK⟩:=bn.rules;clear fV)
     | (go_at_call 105;refine(aX ihb h12 (bU iB)).mono ?_;rintro e Rf (⟨rfl,hr,lZ⟩|⟨u13,a13,Kc,rfl,D6,lZ,jr⟩);exact⟨rfl,aI.eD hr (qK.trans lZ)⟩;simp only[aY];have C9:=qK.trans lZ;have bn:=QS.bI h12 lZ bn (by decide) bZ;obtain⟨iy,iJ,aU,iK⟩:=bn.rules;clear iB))
   go_end0
   exact aI.ret (y:=()) jr D6 C9
  cases c4:(n.kids==4)
  rotate_left
  ·skip
   have gT:=(dP gW).1 (by simp[c4]);clear gW;have iO:=bB c4 gT;clear gT
   go_wp2_with (first
     | (go_at_call 48;with_reducible refine(iX _).mono ?_;rintro e w7 ⟨rfl,rfl⟩)
     | (go_at_call 77;refine(aX (kI 12 0) h3 iO).mono ?_;rintro e w8 (⟨rfl,hr,qy⟩|⟨lab,a8,LP,rfl,h8,qy,lY⟩);exact⟨rfl,aI.eD hr (p3.trans qy)⟩;simp only[Fb];have p8:=p3.trans qy;have bn:=QS.bI h3 qy bn (by decide) bZ;obtain⟨iy,iJ,aU,iK⟩:=bn.rules;clear iO)
     | (go_at_call 76;refine(aV (l:=[lab,[58]]) h8 lY rfl (by simp) (by first|rfl|simp)).mono ?_;rintro e w9 ⟨rfl,h9,nR,lG⟩;have p9:=p8.trans nR;have bn:=QS.bI h8 nR bn (by decide) bZ;obtain⟨iy,iJ,aU,iK⟩:=bn.rules;clear lY)
     | (go_at_call 104;refine(pO h9 Uf.text lG).mono ?_;rintro e Cv (⟨rfl,hr,jd⟩|⟨rfl,h10,jd,gN⟩);exact⟨rfl,aI.eD hr (p9.trans jd)⟩;have sF:=p9.trans jd;have bn:=QS.bI h9 jd bn (by decide) bZ;obtain⟨iy,iJ,aU,iK⟩:=bn.rules;clear lG)
     | (go_at_call 76;refine(aV (l:=[[102,111,114],n.text,[105,110]]) h10 gN rfl (by simp) (by first|rfl|simp)).mono ?_;rintro e Kg ⟨rfl,h11,j6,fV⟩;have za:=sF.trans j6;have bn:=QS.bI h10 j6 bn (by decide) bZ;obtain⟨iy,iJ,aU,iK⟩:=bn.rules;clear gN)
     | (go_at_call 187;refine(aX dO h11 fV).mono ?_;rintro e Jd (⟨rfl,hr,iA⟩|⟨u12,a12,Pw,rfl,h12,iA,iB⟩);exact⟨rfl,aI.eD hr (za.trans iA)⟩;simp only[aY];have qK:=za.trans iA;have bn:=QS.bI h11 iA bn (by decide) bZ;obtain⟨iy,iJ,aU,iK⟩:=bn.rules;clear fV)
     | (go_at_call 76;refine(aV (l:=[[46,46]]) h12 iB rfl (by simp) (by first|rfl|simp)).mono ?_;rintro e Rf ⟨rfl,D6,lZ,jr⟩;have C9:=qK.trans lZ;have bn:=QS.bI h12 lZ bn (by decide) bZ;obtain⟨iy,iJ,aU,iK⟩:=bn.rules;clear iB)
     | (go_at_call 187;refine(aX dO D6 jr).mono ?_;rintro e M8 (⟨rfl,hr,iI⟩|⟨u14,a14,Ki,rfl,xJ,iI,lq⟩);exact⟨rfl,aI.eD hr (C9.trans iI)⟩;simp only[aY];have Cw:=C9.trans iI;have bn:=QS.bI D6 iI bn (by decide) bZ;obtain⟨iy,iJ,aU,iK⟩:=bn.rules;clear jr)
     | (go_at_call 105;refine(aX ihb xJ (bU lq)).mono ?_;rintro e RP (⟨rfl,hr,lu⟩|⟨u15,a15,abe,rfl,mW,lu,uT⟩);exact⟨rfl,aI.eD hr (Cw.trans lu)⟩;simp only[aY];have Fx:=Cw.trans lu;have bn:=QS.bI xJ lu bn (by decide) bZ;obtain⟨iy,iJ,aU,iK⟩:=bn.rules;clear lq))
   go_end0
   exact aI.ret (y:=()) uT mW Fx
  ·have hrn:=Lib.hid ((dP gW).2 (by simp[c3,c4]))
   go_wp2_with (first
     | (go_at_call 48;with_reducible refine(jE _).mono ?_;rintro e w5 ⟨rfl,rfl⟩))
   exact⟨rfl,aI.eD hrn.out p3⟩
end
end Go.Proofs.YtoomapkcoibmhaaGreatDoor
end
