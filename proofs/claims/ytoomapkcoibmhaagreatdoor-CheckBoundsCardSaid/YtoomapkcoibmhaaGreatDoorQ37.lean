/- A part of the proof. -/
import Derived.Test.YtoomapkcoibmhaaGreatDoorQ36
set_option maxRecDepth 100000
set_option maxHeartbeats 12800000
set_option linter.all false
section
open Go Go.Proofs Go.RowKit Go.Shelf Go.Maps Ck
namespace Go.Proofs.YtoomapkcoibmhaaGreatDoor
attribute [local go_sem] Oper.semAt_some
theorem KS (x:Option Addr) (c:Nat) (w:World) (hV:Vars w):Calls Tryz.prog 15 #[.slice x 0 c] w fun e w'=>e=.returned (.agg #[.int .i64 72,.int .i64 0])∧Fr [] w w':=by
 have hF1:Fr [] w (w.alloc (.cells #[.int .i64 0,.int .i64 0] 26)):=(Fr.refl _ _).alloc _;have hq0:=au.new w #[.int .i64 0,.int .i64 0] 26;have hl:=Ny [] (.slice x 0 c) false (w.alloc (.cells #[.int .i64 0,.int .i64 0] 26)) (hV.fr hF1 (by simp)) ⟨x,c,rfl,fun h=>absurd rfl h⟩ (fun n hn=>by cases hn) (by simp) (by simp[cost]) (by decide);go_enter Tryz.func15,Tryz.ntmps15
 go_wp2_with (go_at_call 16;refine hl.mono ?_;rintro e w2 ⟨rfl,hf2⟩;obtain⟨rc,rz,bE,rb⟩:=(hq0.fr hf2 (by simp)).rules)
 have hF:Fr [] w (Ck.blk w2 w.heap.size #[.int .i64 72,.int .i64 0] 26):=(hF1.trans hf2).blk (.inr (Nat.le_refl _)) _ _;have uh:au (Ck.blk w2 w.heap.size #[.int .i64 72,.int .i64 0] 26) w.heap.size #[.int .i64 72,.int .i64 0] 26:=au.blk rb;obtain⟨W5,gU⟩:∃X,X=Ck.blk w2 w.heap.size #[.int .i64 72,.int .i64 0] 26:=⟨_,rfl⟩
 rw[←gU]at uh hF ⊢
 clear gU;obtain⟨qc,qz,bS,qb⟩:=uh.rules
 simp[bodyPost,results,Tryz.results15,go_sem,qc];exact hF
theorem Qo (s:Bytes):parse s=match fU (aM s).2 (fuel s) (iM (aM s).1 0) with
  | some (.ok (T,_))=>(T.row,⟨0,0⟩)
  | some (.error f)=>([],f)
  | none=>([],⟨0,0⟩):=by
 have h:=Ag s;unfold parseWith at h;split at h
 ·cases h
 ·rename_i f hf;rw[hf];exact(Option.some.inj h).symm
 ·rename_i t ts hf;rw[hf];exact(Option.some.inj h).symm
theorem Qp (Qn:∀S N,(S.R.length≤S.c∧S.c≤maxLen)→FV S N) (s:Bytes) (w:World) (hV:Vars w) (hs:s.length≤140737488351232) :
  Calls Tryz.prog 8 #[.string ⟨s.toArray⟩] w fun e w'=>∃v,e=.returned (.tuple #[v,.agg #[.int .i64 (kU s).2.code,.int .i64 (kU s).2.at']])∧w'.ownsRow w.heap.size 40 6 v (kU s).1.length (kY (kU s).1)∧Fr [] w w':=by
 have hF1:Fr [] w (w.alloc (.cells #[.int .i64 0,.int .i64 0] 26)):=(Fr.refl _ _).alloc _;have hq0:=au.new w #[.int .i64 0,.int .i64 0] 26;have hV1:=hV.fr hF1 (by simp);have hpa:=MO s (w.alloc (.cells #[.int .i64 0,.int .i64 0] 26)) hV1 hs;have hpo:=Qo s
 have hld:kU s=match fU (aM s).2 (fuel s) (iM (aM s).1 0) with
  | some (.ok (T,_))=>if (bC T false).code==0 then(T.row,bC T false) else([],bC T false)
  | some (.error f)=>if f.code==0 then([],⟨72,0⟩) else([],f)
  | none=>([],⟨0,0⟩):=rfl
 cases hm:fU (aM s).2 (fuel s) (iM (aM s).1 0) with
 | none =>
  exfalso
  have:=uP s
  unfold parseWith at this;rw[hm]at this
  exact this rfl
 | some R =>
  cases R with
  | error f =>
   rw[hm]at hpo hld
   simp only at hpo hld;rw[hpo]at hpa
   cases hc:(f.code==0) with
   | true =>
    rw[hc]at hld
    simp only[if_true]at hld;have hc0:f.code=0:=by simpa using hc
    rw[hc0]at hpa
    rw[hld];clear hm hpo hld hc hc0 hs;go_enter Tryz.func8,Tryz.ntmps8
    go_wp2_with (go_at_call 14;refine hpa.mono ?_;rintro e w2 ⟨v,rfl,hown,hf2⟩;obtain⟨x0,c0,rfl⟩:=gX hown;simp only[List.length_nil])
    obtain⟨W2,hW2⟩:∃X,X=w2.alloc (.cells #[.int .i64 0,.int .i64 f.at'] 26):=⟨_,rfl⟩
    have hq1:au W2 w.heap.size #[.int .i64 0,.int .i64 0] 26:=by rw[hW2];exact(hq0.fr hf2 (by simp)).alloc _
    have Nz:au W2 w2.heap.size #[.int .i64 0,.int .i64 f.at'] 26:=by rw[hW2];exact au.new _ _ _
    have hF2:Fr [] w2 W2:=by rw[hW2];exact(Fr.refl _ _).alloc _
    have Uz:=(hF1.trans hf2).trans hF2;rw[←hW2];clear hW2;have hck:=KS x0 c0 W2 (hV1.fr (hf2.trans hF2) (by simp))
    go_at_call 15
    refine hck.mono ?_;rintro e w3 ⟨rfl,hf3⟩;obtain⟨tc,tz,jX,tb⟩:=(Nz.fr hf3 (by simp)).rules
    obtain⟨W4,oW⟩:∃X,X=Ck.blk w3 w2.heap.size #[.int .i64 72,.int .i64 0] 26:=⟨_,rfl⟩
    have hsz2:w.heap.size≠w2.heap.size:=by have:=hf2.size;simp at this;omega
    have KC:au W4 w2.heap.size #[.int .i64 72,.int .i64 0] 26:=by rw[oW];exact au.blk tb
    have hq2:au W4 w.heap.size #[.int .i64 0,.int .i64 0] 26:=by rw[oW];exact au.aL (hq1.fr hf3 (by simp)) hsz2
    have WW:Fr [] w W4:=by rw[oW];exact(Uz.trans hf3).blk (.inr (by have:=hf2.size;simp at this;omega)) _ _
    go_wp2_with (fail)
    rw[←oW];clear oW tc tz jX tb;have hqW:=hq2.rules;obtain⟨rc,rz,bE,rb⟩:=hq2.rules
    obtain⟨tc,tz,jX,tb⟩:=KC.rules
    go_region
    all_goals go_wp2
    all_goals
     have uh:au (Ck.blk W4 w.heap.size #[.int .i64 72,.int .i64 0] 26) w.heap.size #[.int .i64 72,.int .i64 0] 26:=au.blk rb;have hF:Fr [] w (Ck.blk W4 w.heap.size #[.int .i64 72,.int .i64 0] 26).drew:=((WW).blk (.inr (Nat.le_refl _)) _ _).drew;have hO:(Ck.blk W4 w.heap.size #[.int .i64 72,.int .i64 0] 26).drew.ownsRow w.heap.size 40 6 (.slice none 0 0) 0 (kY []):=⟨rfl,.inl ⟨rfl,rfl⟩⟩
     obtain⟨qc,qz,bS,qb⟩:=uh.rules
     simp[bodyPost,results,Tryz.results8,go_sem,qc];exact⟨hO,hF⟩
   | false =>
    rw[hc]at hld
    simp only[Bool.false_eq_true,if_false]at hld;rw[hld];have hcn:(f.code != 0)=true:=by simp at hc ⊢;exact hc
    clear hm hpo hld hV hs;go_enter Tryz.func8,Tryz.ntmps8
    go_wp2_with (go_at_call 14;refine hpa.mono ?_;rintro e w2 ⟨v,rfl,hown,hf2⟩;obtain⟨x0,m0,c0,rfl⟩:∃x m c,v=.slice x m c:=(by rcases hown.2 with⟨rfl,_⟩|⟨g,cap,cur,rfl,_⟩<;>exact⟨_,_,_,rfl⟩))
    obtain⟨W2,hW2⟩:∃X,X=w2.alloc (.cells #[.int .i64 f.code,.int .i64 f.at'] 26):=⟨_,rfl⟩
    have hq2:au W2 w.heap.size #[.int .i64 0,.int .i64 0] 26:=by rw[hW2];exact(hq0.fr hf2 (by simp)).alloc _
    have KC:au W2 w2.heap.size #[.int .i64 f.code,.int .i64 f.at'] 26:=by rw[hW2];exact au.new _ _ _
    have Uz:Fr [] w W2:=by rw[hW2];exact(hF1.trans hf2).alloc _
    rw[←hW2];clear hW2;have hqW:=hq2.rules;obtain⟨rc,rz,bE,rb⟩:=hq2.rules
    obtain⟨tc,tz,jX,tb⟩:=KC.rules
    go_region
    all_goals go_wp2
    all_goals
     have uh:au (Ck.blk W2 w.heap.size #[.int .i64 f.code,.int .i64 f.at'] 26) w.heap.size #[.int .i64 f.code,.int .i64 f.at'] 26:=au.blk rb;have hF:Fr [] w (Ck.blk W2 w.heap.size #[.int .i64 f.code,.int .i64 f.at'] 26).drew:=((Uz).blk (.inr (Nat.le_refl _)) _ _).drew;have hO:(Ck.blk W2 w.heap.size #[.int .i64 f.code,.int .i64 f.at'] 26).drew.ownsRow w.heap.size 40 6 (.slice none 0 0) 0 (kY []):=⟨rfl,.inl ⟨rfl,rfl⟩⟩
     obtain⟨qc,qz,bS,qb⟩:=uh.rules
     simp[bodyPost,results,Tryz.results8,go_sem,qc];exact⟨hO,hF⟩
  | ok p =>
   obtain⟨T,ts⟩:=p
   rw[hm]at hpo hld
   simp only at hpo hld;rw[hpo]at hpa
   obtain⟨hG,hk⟩:=yP s _ T ts hm
   have hsz:T.size≤3000000:=by
    have h1:=Nn s;rw[hpo]at h1
    have h2:=kg T;simp only at h1;omega
   have HG:=And.intro hG (And.intro hk hsz);clear hm hpo hs hG hk hsz;obtain⟨fc,hfc⟩:∃fc,bC T false=fc:=⟨_,rfl⟩
   have HFC:=Lib.hid hfc;rw[hfc]at hld
   cases hc:(fc.code==0) with
   | true =>
    rw[hc]at hld
    simp only[if_true]at hld;have hcn:(fc.code != 0)=false:=by simp at hc ⊢;exact hc
    rw[hld];clear hld hc hfc;go_enter Tryz.func8,Tryz.ntmps8
    go_wp2_with (go_at_call 14;refine hpa.mono ?_;rintro e w2 ⟨v,rfl,hown,hf2⟩;obtain⟨g,c,rfl,hbg,NA,hcap⟩:=vg hown (AA T))
    obtain⟨W2,hW2⟩:∃X,X=w2.alloc (.cells #[.int .i64 0,.int .i64 0] 26):=⟨_,rfl⟩
    have hq1:au W2 w.heap.size #[.int .i64 0,.int .i64 0] 26:=by rw[hW2];exact(hq0.fr hf2 (by simp)).alloc _
    have Nz:au W2 w2.heap.size #[.int .i64 0,.int .i64 0] 26:=by rw[hW2];exact au.new _ _ _
    have hF2:Fr [] w2 W2:=by rw[hW2];exact(Fr.refl _ _).alloc _
    have Uz:=(hF1.trans hf2).trans hF2;rw[←hW2];clear hW2;have hck:=xW Qn T HG.1 HG.2.1 HG.2.2 g c W2 (hV1.fr (hf2.trans hF2) (by simp)) (NA.fr hF2 (by simp)) hcap;rw[HFC.out]at hck
    clear HG
    go_at_call 15
    refine hck.mono ?_;rintro e w3 ⟨rfl,hf3⟩;obtain⟨tc,tz,jX,tb⟩:=(Nz.fr hf3 (by simp)).rules
    obtain⟨W4,oW⟩:∃X,X=Ck.blk w3 w2.heap.size #[.int .i64 fc.code,.int .i64 fc.at'] 26:=⟨_,rfl⟩
    have hsz2:w.heap.size≠w2.heap.size:=by have:=hf2.size;simp at this;omega
    have KC:au W4 w2.heap.size #[.int .i64 fc.code,.int .i64 fc.at'] 26:=by rw[oW];exact au.blk tb
    have hq2:au W4 w.heap.size #[.int .i64 0,.int .i64 0] 26:=by rw[oW];exact au.aL (hq1.fr hf3 (by simp)) hsz2
    have WW:Fr [] w W4:=by rw[oW];exact(Uz.trans hf3).blk (.inr (by have:=hf2.size;simp at this;omega)) _ _
    have vP:W4.ownsRow w.heap.size 40 6 (.slice (some ⟨g,0,none⟩) T.row.length c) T.row.length (kY T.row):=by rw[oW];exact gZ (jF (eH (eH hown hF2) hf3) (Nz.fr hf3 (by simp)) (by decide)) (by simp)
    go_wp2_with (fail)
    rw[←oW];clear oW tc tz jX tb;have hqW:=hq2.rules;obtain⟨rc,rz,bE,rb⟩:=hq2.rules
    obtain⟨tc,tz,jX,tb⟩:=KC.rules
    go_region
    all_goals go_wp2
    all_goals
     have uh:au (Ck.blk W4 w.heap.size #[.int .i64 fc.code,.int .i64 fc.at'] 26) w.heap.size #[.int .i64 fc.code,.int .i64 fc.at'] 26:=au.blk rb;have hF:Fr [] w (Ck.blk W4 w.heap.size #[.int .i64 fc.code,.int .i64 fc.at'] 26).drew:=((WW).blk (.inr (Nat.le_refl _)) _ _).drew;have hO:(Ck.blk W4 w.heap.size #[.int .i64 fc.code,.int .i64 fc.at'] 26).drew.ownsRow w.heap.size 40 6 (.slice (some ⟨g,0,none⟩) T.row.length c) T.row.length (kY T.row):=eH (jF vP hq2 (by decide)) (Fr.refl _ _).drew;obtain⟨qc,qz,bS,qb⟩:=uh.rules
     simp[bodyPost,results,Tryz.results8,go_sem,qc];exact⟨hO,hF⟩
   | false =>
    rw[hc]at hld
    simp only[Bool.false_eq_true,if_false]at hld;have hcn:(fc.code != 0)=true:=by simp at hc ⊢;exact hc
    rw[hld];clear hld hc hfc;go_enter Tryz.func8,Tryz.ntmps8
    go_wp2_with (go_at_call 14;refine hpa.mono ?_;rintro e w2 ⟨v,rfl,hown,hf2⟩;obtain⟨g,c,rfl,hbg,NA,hcap⟩:=vg hown (AA T))
    obtain⟨W2,hW2⟩:∃X,X=w2.alloc (.cells #[.int .i64 0,.int .i64 0] 26):=⟨_,rfl⟩
    have hq1:au W2 w.heap.size #[.int .i64 0,.int .i64 0] 26:=by rw[hW2];exact(hq0.fr hf2 (by simp)).alloc _
    have Nz:au W2 w2.heap.size #[.int .i64 0,.int .i64 0] 26:=by rw[hW2];exact au.new _ _ _
    have hF2:Fr [] w2 W2:=by rw[hW2];exact(Fr.refl _ _).alloc _
    have Uz:=(hF1.trans hf2).trans hF2;rw[←hW2];clear hW2;have hck:=xW Qn T HG.1 HG.2.1 HG.2.2 g c W2 (hV1.fr (hf2.trans hF2) (by simp)) (NA.fr hF2 (by simp)) hcap;rw[HFC.out]at hck
    clear HG
    go_at_call 15
    refine hck.mono ?_;rintro e w3 ⟨rfl,hf3⟩;obtain⟨tc,tz,jX,tb⟩:=(Nz.fr hf3 (by simp)).rules
    obtain⟨W4,oW⟩:∃X,X=Ck.blk w3 w2.heap.size #[.int .i64 fc.code,.int .i64 fc.at'] 26:=⟨_,rfl⟩
    have hsz2:w.heap.size≠w2.heap.size:=by have:=hf2.size;simp at this;omega
    have KC:au W4 w2.heap.size #[.int .i64 fc.code,.int .i64 fc.at'] 26:=by rw[oW];exact au.blk tb
    have hq2:au W4 w.heap.size #[.int .i64 0,.int .i64 0] 26:=by rw[oW];exact au.aL (hq1.fr hf3 (by simp)) hsz2
    have WW:Fr [] w W4:=by rw[oW];exact(Uz.trans hf3).blk (.inr (by have:=hf2.size;simp at this;omega)) _ _
    go_wp2_with (fail)
    rw[←oW];clear oW tc tz jX tb;have hqW:=hq2.rules;obtain⟨rc,rz,bE,rb⟩:=hq2.rules
    obtain⟨tc,tz,jX,tb⟩:=KC.rules
    go_region
    all_goals go_wp2
    all_goals
     have uh:au (Ck.blk W4 w.heap.size #[.int .i64 fc.code,.int .i64 fc.at'] 26) w.heap.size #[.int .i64 fc.code,.int .i64 fc.at'] 26:=au.blk rb;have hF:Fr [] w (Ck.blk W4 w.heap.size #[.int .i64 fc.code,.int .i64 fc.at'] 26).drew:=((WW).blk (.inr (Nat.le_refl _)) _ _).drew;have hO:(Ck.blk W4 w.heap.size #[.int .i64 fc.code,.int .i64 fc.at'] 26).drew.ownsRow w.heap.size 40 6 (.slice none 0 0) 0 (kY []):=⟨rfl,.inl ⟨rfl,rfl⟩⟩
     obtain⟨qc,qz,bS,qb⟩:=uh.rules
     simp[bodyPost,results,Tryz.results8,go_sem,qc];exact⟨hO,hF⟩
theorem NC (n:Ck.Node) (w:World) :
  Calls Tryz.prog 20 #[Ah n] w (fun e w'=>e=.returned (.bool (meets n))∧w'=w.alloc (.cells #[.int .i64 n.kind,.int .i64 n.at',.int .i64 n.kids,.string ⟨n.text.toArray⟩,.int .i64 n.int,.int .u64 n.bits] 40)):=by
 unfold Ah;go_enter Tryz.func20,Tryz.ntmps20;go_wp2
 all_goals go_ret
 all_goals (refine And.intro ?_ rfl;unfold meets;simp_all)
end Go.Proofs.YtoomapkcoibmhaaGreatDoor
end
section
open Go Go.Proofs Go.RowKit Go.Shelf Go.Maps Go.Sort Ck
namespace Go.Proofs.YtoomapkcoibmhaaGreatDoor
attribute [local go_sem] Oper.semAt_some
def Sg (D:DataW Unit) (l:List Int):Prop:=∀x:Int,Maps.has D (.int .i64 x)=l.contains x∧D.atKey (.int .i64 x) (.lit (.int .i64 0))=.lit (.int .i64 (l.count x:Nat))
def sQ (w:World) (m:Nat) (l:List Int):Prop :=
 ∃n D,w.ownsMap (H:=Unit) Tryz.prog 3 (plainElem Tryz.prog 3) m n D∧n≤l.length∧Sg D l
theorem FX:Keyed Tryz.prog 3:=int_keyed Tryz.underlying3
theorem Tz {x:Int} (h:(Lit.int .i64 x).wf=true):keyOf Tryz.prog 3 (.int .i64 x)=some (.int .i64 x):=keyOf_int_mk Tryz.underlying3 h
theorem L9 (x:Int):WideAt.IsKeyLit (.int .i64 x):=by
 first|trivial|simp[WideAt.IsKeyLit]
theorem sQ.lt {w:World} {m:Nat} {l:List Int} (h:sQ w m l):m<w.heap.size:=by obtain⟨n,D,h,_⟩:=h;exact h.lt
theorem sQ.eq {w w':World} {m:Nat} {l:List Int} (h:sQ w m l) (hb:w'.heap[m]? = w.heap[m]?):sQ w' m l:=by
 obtain⟨n,D,h1,h2⟩:=h
 exact⟨n,D,fI h1 hb,h2⟩
theorem sQ.fr {w w':World} {m:Nat} {l:List Int} (h:sQ w m l) (hf:Fr [] w w'):sQ w' m l:=h.eq (hf.block _ h.lt (by simp))
theorem UA {D:DataW Unit} {l:List Int} {x:Int} (hD:Maps.IsMap D) (h:Sg D l):Sg (D.put (.int .i64 x) (.lit (.int .i64 ((l.count x:Nat)+1)))) (l++[x]):=by
 intro y;by_cases hy:y=x
 ·subst hy;rw[Maps.has_put_same hD (L9 y),Maps.atKey_put_same hD (L9 y)];simp[List.count_append]
 ·have hne:(Lit.int .i64 y)≠.int .i64 x:=by intro e;injection e with e1 e2;exact hy e2
  rw[Maps.has_put_other hne,Maps.atKey_put_other hne,(h y).1,(h y).2];have h2:List.count y [x]=0:=by rw[List.count_eq_zero];simp[hy]
  simp[List.count_append,hy,h2]
theorem Si (w:World):sQ (w.alloc (.map #[] 0)) w.heap.size [] :=
 ⟨0,_,World.ownsMap_made w _ _ _,Nat.le_refl _,fun x=>by simp[Maps.has,DataW.atKey]⟩
def dd:List Int→List Int
 | []=>[]
 | x::l=>if x∈l then dd l else x::dd l
theorem xX:∀(l:List Int) (x:Int),x∈dd l↔x∈l
 | [],x=>Iff.rfl
 | y::l,x=>by
  unfold dd;split
  ·rename_i h;rw[xX l x,List.mem_cons];exact⟨.inr,fun h1=>h1.elim (fun e=>e ▸ h) id⟩
  ·rw[List.mem_cons,List.mem_cons,xX l x]
theorem wF:∀l:List Int,(dd l).Nodup
 | []=>List.nodup_nil
 | y::l=>by
  unfold dd;split
  ·exact wF l
  ·rename_i h;exact List.nodup_cons.2 ⟨fun h1=>h ((xX l y).1 h1),wF l⟩
theorem BR (l:List Int) (a:Int):∀K:List Int,K.Nodup→(K.flatMap (fun x=>List.replicate (l.count x) x)).count a=if a∈K then l.count a else 0
 | [],_=>by simp
 | x::K,h=>by
  obtain⟨h1,h2⟩:=List.nodup_cons.1 h
  rw[List.flatMap_cons,List.count_append,BR l a K h2,List.count_replicate];by_cases hx:x=a
  ·subst hx;simp[h1]
  ·have:¬a=x:=fun e=>hx e.symm
   simp[hx,this]
theorem yQ (l:List Int):∀K:List Int,K.Pairwise (fun a b=>leI a b=true)→(K.flatMap (fun x=>List.replicate (l.count x) x)).Pairwise (fun a b=>leI a b=true)
 | [],_=>by simp
 | x::K,h=>by
  obtain⟨h1,h2⟩:=List.pairwise_cons.1 h
  rw[List.flatMap_cons,List.pairwise_append];refine⟨List.pairwise_replicate.2 (.inr (by simp[leI])),yQ l K h2,fun a ha b hb=>?_⟩;obtain rfl:=List.eq_of_mem_replicate ha;obtain⟨y,hy,hb⟩:=List.mem_flatMap.1 hb
  obtain rfl:=List.eq_of_mem_replicate hb;exact h1 _ hy
theorem KT {D:DataW Unit} {l ss:List Int} {w:World} {m n:Nat} (hown:w.ownsMap (H:=Unit) Tryz.prog 3 (plainElem Tryz.prog 3) m n D) (h:Sg D l) (hp:ss.Perm (intKeys D)) :
  (ss.mergeSort leI).flatMap (fun x=>List.replicate (l.count x) x)=l.mergeSort leI:=by
 have hC:CollectedI D (fun _=>false) (dd l):=⟨wF l,fun x=>by rw[xX,(h x).1];simp⟩
 have hp2:=hp.trans (hC.perm hown FX Tryz.underlying3 (fun _=>rfl)).symm;have tr:∀a b c:Int,leI a b=true→leI b c=true→leI a c=true:=fun a b c h1 h2=>by simp only[leI,decide_eq_true_eq]at *;exact Int.le_trans h1 h2
 have tot:∀a b:Int,(leI a b||leI b a)=true:=fun a b=>by simp only[leI,Bool.or_eq_true,decide_eq_true_eq];exact Int.le_total a b
 have hK:(ss.mergeSort leI).Perm (dd l):=(List.mergeSort_perm ss leI).trans hp2;refine List.Perm.eq_of_pairwise (le:=fun a b=>leI a b=true) (fun a b _ _ h1 h2=>?_) (yQ l _ (List.pairwise_mergeSort tr tot ss)) (List.pairwise_mergeSort tr tot l) ?_
 ·simp only[leI,decide_eq_true_eq]at h1 h2;exact Int.le_antisymm h1 h2
 ·refine List.Perm.trans ?_ (List.mergeSort_perm l leI).symm;rw[List.perm_iff_count];intro a;rw[BR l a _ (hK.nodup_iff.2 (wF l))];by_cases hx:a∈l
  ·rw[if_pos (hK.mem_iff.2 ((xX l a).2 hx))]
  ·rw[if_neg (fun h9=>hx ((xX l a).1 (hK.mem_iff.1 h9))),List.count_eq_zero.2 hx]
theorem WX (mb:Option Nat) (W:World):Calls Tryz.prog 22 #[.map mb] W fun e w'=>e=.returned (.func (.func 35) #[] #[.pointer (some ⟨W.heap.size,0,none⟩)])∧w'=W.alloc (.cells #[.map mb] 51) :=
 (callsIn_wide (n:=5)).1 (AnyZI.keys_in Tryz.keysA Fence.wide 5 trivial rfl mb W)
theorem UC (m:Nat):AnyZI.SortsIn Tryz.prog Tryz.sortedA_ren Fence.wide m :=
 ⟨fun blk off cap ss W hH hblk hsz=>callsIn_wide.2 (AnyM.slices_Sort_int Tryz.sortA blk off cap ss W hH hblk hsz),
  fun p cap W=>callsIn_wide.2 (AnyM.slices_Sort_int_none Tryz.sortA p cap W)⟩
theorem Sj (b nn:Nat) (D0:DataW Unit) (w:World) (hown:w.ownsMap (H:=Unit) Tryz.prog 3 (plainElem Tryz.prog 3) b nn D0) (hmax:Maps.size D0≤maxLen) (hbytes:Maps.size D0*8≤140737488355328) :
  Calls Tryz.prog 21 #[.func (.func 35) #[] #[.pointer (some ⟨w.heap.size,0,none⟩)]] (w.alloc (.cells #[.map (some b)] 51)) fun e w'=>∃(v:Value) (ss:List Int),e=.returned v∧ss.Perm (intKeys D0) ∧
   w'.ownsRow w.heap.size 3 1 v ss.length ((ss.mergeSort leI).map encZ)∧(v=.slice none 0 0↔ss=[])∧Fr [] w w':=by
 have hbl:=hown.lt
 have hseq:SeqGives Fence.wide 2 Tryz.prog 35 #[.pointer (some ⟨w.heap.size,0,none⟩)] encZ (fun ss=>ss.Perm (intKeys D0)) (Maps.size D0) (w.alloc (.cells #[.map (some b)] 51)) :=
  AnyZI.keys_gives (ρ:=Tryz.keysA_ren) { Tryz.keysA with } Fence.wide _ trivial rfl (by omega) w.heap.size b nn D0 _ (by simp) (by simp) (by
   obtain⟨es,clock,hb,Ft,hs,hD⟩:=hown
   exact⟨es,clock,(Below.heap_alloc _ _ b hbl).trans hb,Ft,hs,hD⟩)
 have cS:=AnyZI.sorted_in Tryz.sortedA Fence.wide 5 trivial trivial trivial trivial rfl (by omega) (UC _) (enters_of Tryz.func34 (by kernel_rfl) rfl) 35 #[.pointer (some ⟨w.heap.size,0,none⟩)] trivial (enters_of Tryz.func35 (by kernel_rfl) rfl) _ _ hmax hbytes _ hseq;change CallsIn _ _ Tryz.prog 21 _ _ _ at cS;refine((callsIn_wide (n:=5)).1 cS).mono ?_
 rintro e w' ⟨v,ss,rfl,hS,hrow,hnil,hb⟩;exact⟨v,ss,rfl,hS,ownsRow_base_a hrow (by simp),hnil,Fr.of_below (((Below.refl _ w).alloc (Nat.le_refl _) _).trans (hb.mono (by simp)))⟩
end Go.Proofs.YtoomapkcoibmhaaGreatDoor
end
section
open Go Go.Proofs Go.RowKit Go.Shelf Go.Maps Go.Sort Ck
namespace Ck
def tN (R:List Node) (q:Nat):List Int:=((R.take q).filter meets).map (·.at')
theorem ND {R:List Node} {q:Nat} {nd:Node} (h:R[q]? = some nd):tN R (q+1)=if meets nd then tN R q++[nd.at']else tN R q:=by
 unfold tN;rw[List.take_add_one,h];simp only[Option.toList_some,List.filter_append,List.map_append];cases hm:meets nd<;>simp[hm]
theorem Ma (R:List Node) (q:Nat):(tN R q).length≤q:=by
 unfold tN;rw[List.length_map];refine Nat.le_trans (List.length_filter_le _ _) ?_;rw[List.length_take];exact Nat.min_le_left _ _
theorem Qq (R:List Node):(tN R R.length).mergeSort (fun a b=>decide (a≤b))=sites R:=by unfold tN sites;rw[List.take_length]
def vv (T:Tree):List Int:=if (bC T false).code==0 then sites T.row else[]
def sS (pl K:List Int) (q:Nat):List Int:=(K.take q).flatMap (fun x=>List.replicate (pl.count x) x)
theorem NG {pl K:List Int} {q:Nat} {x:Int} (h:K[q]? = some x):sS pl K (q+1)=sS pl K q++List.replicate (pl.count x) x:=by
 unfold sS;rw[List.take_add_one,h,List.flatMap_append];simp
theorem Iz (pl K:List Int):sS pl K K.length=K.flatMap (fun x=>List.replicate (pl.count x) x):=by unfold sS;rw[List.take_length]
theorem Sk (pl K:List Int) (q:Nat):(sS pl K q).length≤(sS pl K K.length).length:=by
 rw[Iz];unfold sS
 conv=>rhs;rw[←List.take_append_drop q K]
 rw[List.flatMap_append,List.length_append];omega
end Ck
namespace Go.Proofs.YtoomapkcoibmhaaGreatDoor
attribute [local go_sem] Oper.semAt_some
theorem Qr {W:World} {base n:Nat} {v:Value} {K:List Int} (h:W.ownsRow base 3 1 v n (K.map encZ)):∃a cap,v=.slice a n cap∧n≤cap∧cap≤maxLen∧(∀j x,K[j]? = some x→∃gs,a=some ⟨gs,0,none⟩∧gs<W.heap.size∧W.cell? ⟨gs,j,none⟩=some (.int .i64 x)):=by
 rcases h.2 with⟨rfl,rfl⟩|⟨g,cap,cur,rfl,hb,hg,h2,h3,_⟩
 ·refine⟨none,0,rfl,Nat.le_refl _,by simp[maxLen],fun j x hj=>?_⟩;have h1:K.length=0:=by simpa using h.1
  have h4:=(List.getElem?_eq_some_iff.1 hj).1;omega
 ·refine⟨_,cap,rfl,h2,h3,fun j x hj=>⟨g,rfl,(Array.getElem?_eq_some_iff.1 hg).1,?_⟩⟩;have h1:K.length=n:=by simpa using h.1
  have h4:=(List.getElem?_eq_some_iff.1 hj).1;rw[h.cellAt j (by omega),List.getElem?_map,hj];rfl
theorem Qs {W:World} {base n size:Nat} {e:TypeId} {v:Value} {xs:List Value} (h:W.ownsRow base e size v n xs) {k:Nat} (hk:v.ownBlock=some k):base≤k:=by
 rcases h.2 with⟨rfl,_⟩|⟨g,cap,cur,rfl,hb,_⟩
 ·cases hk
 ·cases hk;exact hb
theorem NH (Qn:∀S N,(S.R.length≤S.c∧S.c≤maxLen)→FV S N) (T:Tree) (hG:T.all Gm) (hk:T.n.kind=1) (hsz:T.size≤3000000) (g c:Nat) (R:List Ck.Node) (hR:R=T.row) (w:World) (hV:Vars w) (xV:J4 R g w) (hcap:R.length≤c∧c≤maxLen) (hat:∀m∈R,meets m=true→(Lit.int .i64 m.at').wf=true) :
  Calls Tryz.prog 13 #[.slice (some ⟨g,0,none⟩) R.length c] w fun e w'=>∃v,e=.returned v∧Fr [] w w'∧w'.ownsRow w.heap.size 3 1 v (vv T).length ((vv T).map encZ):=by
 have hck:=xW Qn T hG hk hsz g c w hV (by rw[←hR];exact xV) (by rw[←hR];exact hcap);rw[←hR]at hck
 have hRl:R.length≤3000000:=by rw[hR,kg];omega
 have hlast:Hid (vv T=if (bC T false).code==0 then(tN R R.length).mergeSort leI else[]):=by
  unfold vv;rw[Qq,hR];rfl
 obtain⟨code,hcode⟩:∃x,Hid ((bC T false).code=x):=⟨_,rfl⟩
 obtain⟨fat,Qt⟩:∃x,Hid ((bC T false).at'=x):=⟨_,rfl⟩
 rw[hcode.out,Qt.out]at hck
 rw[hcode.out]at hlast
 obtain⟨out,hout⟩:∃x,Hid (vv T=x):=⟨_,rfl⟩
 rw[hout.out]at hlast ⊢
 have HAT:=Lib.hid hat;have HRA:=Lib.hid xV;obtain⟨i0,hi0,hz0,hz1,hz2⟩:=info_parts Tryz.infoInt
 clear hR hcode Qt hout hG hk hsz hV Qn hat xV hcap;have hfd:∀w:World,(Instr.field 26 (.agg #[.int .i64 code,.int .i64 fat]) 0).run Tryz.prog w=.ok (.int .i64 code) w:=fun _=>by kernel_rfl
 have hmm:=@run_makeMap Tryz.prog;cases hcd:(code==0)
 ·have hc0:¬code=0:=by simpa using hcd
  rw[hcd]at hlast
  have ho:out=[]:=hlast.out;subst ho;go_enter Tryz.func13,Tryz.ntmps13
  go_wp2_with (go_at_call 15;refine hck.mono ?_;rintro e w2 ⟨rfl,hf2⟩)
  go_ret;exact⟨_,rfl,hf2,World.ownsRow_nil _ _ _ _⟩
 ·have hc0:code=0:=by simpa using hcd
  subst hc0;rw[hcd]at hlast
  have HO:Hid (out=(tN R R.length).mergeSort leI):=hlast.out;clear hlast hcd;go_enter Tryz.func13,Tryz.ntmps13
  go_wp2_with (go_at_call 15;refine hck.mono ?_;rintro e w2 ⟨rfl,hf2⟩)
  have hM0:Hid (sQ (w2.alloc (.map #[] 0)) w2.heap.size (tN R 0)∧Fr [] w (w2.alloc (.map #[] 0))):=⟨Si w2,hf2.alloc _⟩
  have hmb:w.heap.size≤w2.heap.size:=hf2.size;clear hck hmm hf2;generalize w2.heap.size=mb at *
  go_loopw [16] (fun j wr=>∃q:Nat,j=.int .i64 q∧q≤R.length∧Hid (sQ wr mb (tN R q)∧Fr [] w wr)) (fun j _=>R.length-(intOf j).toNat)
  case atStart=>exact⟨0,rfl,Nat.zero_le _,hM0⟩
  case round =>
   clear hM0;obtain⟨q,rfl,hq1,hq⟩:=hrel
   obtain⟨hcnt,hfr⟩:=hq.out
   clear hq;by_cases hlt:q<R.length
   ·obtain⟨nd,hnd⟩:∃nd,R[q]? = some nd:=⟨_,List.getElem?_eq_getElem hlt⟩
    have hwf:=HAT.out nd (List.mem_of_getElem? hnd);have KI:=HRA.out.fr hfr (by simp);have hgl:=KI.gl;have cB:=KI.cells q nd hnd;have n0:wr.cell? ⟨g,q*6,none⟩=some (.int .i64 nd.kind):=cB 0 (by omega);have n1:wr.cell? ⟨g,q*6+1,none⟩=some (.int .i64 nd.at'):=cB 1 (by omega);have n2:wr.cell? ⟨g,q*6+2,none⟩=some (.int .i64 nd.kids):=cB 2 (by omega);have n3:wr.cell? ⟨g,q*6+3,none⟩=some (.string ⟨nd.text.toArray⟩):=cB 3 (by omega);have n4:wr.cell? ⟨g,q*6+4,none⟩=some (.int .i64 nd.int):=cB 4 (by omega);have n5:wr.cell? ⟨g,q*6+5,none⟩=some (.int .u64 nd.bits):=cB 5 (by omega);have hps:=ND hnd;have hpl:=Ma R q;have HPS:=Lib.hid hps;have WI:=Lib.hid hcnt;have WY:=Lib.hid hfr;have hmt:=NC nd;unfold Ah at hmt;clear hnd cB hps KI;cases hme:meets nd
    ·clear hwf;rw[hme]at hmt
     go_wp2_with (go_at_call 20;refine(hmt _).mono ?_;rintro e w5 ⟨rfl,rfl⟩)
     go_roundw
     case rel =>
      refine⟨q+1,by go_num,by omega,?_,(WY.out.alloc _).alloc _⟩;rw[HPS.out,hme];exact WI.out.fr (((Fr.refl [] _).alloc _).alloc _)
     case measure=>simp[intOf];omega
    ·have hwf:=hwf hme;rw[hme]at hmt
     obtain⟨nn,D,hown,hnn,hcd⟩:=hcnt
     have hown2:=fun X (hX:Fr [] wr X)=>fI hown (hX.block _ hown.lt (by simp))
     have hkey:=Tz hwf;have hnm:nn<maxLen:=by simp[maxLen];omega
     have abZ:((tN R q).count nd.at':Int)≤3000000:=by have:=List.count_le_length (a:=nd.at') (l:=tN R q);omega
     obtain⟨cv,hcv⟩:∃cv:Int,((tN R q).count nd.at':Nat)=cv:=⟨_,rfl⟩
     rw[hcv]at abZ
     have aeH:0≤cv:=by rw[←hcv];omega
     have ab0:(Lit.int .i64 (cv+1)).wf=true:=by simp[Lit.wf,IntKind.min,IntKind.max,IntKind.signed,IntKind.bits];omega
     have HCV:=Lib.hid hcv;have HCD:=Lib.hid hcd;have ab2:=Lib.hid hown.isMap;have Qu:=(hcd nd.at').2;rw[hcv]at Qu
     clear hcv hcd hown hwf
     go_wp2_with (first|(go_at_call 20;refine(hmt _).mono ?_;rintro e w5 ⟨rfl,rfl⟩)|(at_lookup;refine wpList_lookup_own_int _ rfl _ _ 51 rfl 3 3 .i64 FX Tryz.underlying51 Tryz.underlying3 (Hz _) mb nn D rfl (hown2 _ (((Fr.refl [] _).alloc _).alloc _)) _ _ rfl hkey ?_;intro cv2 Qv WZ;rw[Qu]at Qv;obtain rfl:cv=cv2:=by injection Qv with e1;injection e1)|(refine wpList_mapUpdate_own _ rfl _ _ _ 51 rfl 3 3 FX Tryz.underlying51 (plainElem Tryz.prog 3) mb nn D rfl (hown2 _ (((Fr.refl [] _).alloc _).alloc _)) hnm (.int .i64 nd.at') (.int .i64 (cv+1)) _ rfl rfl hkey (.lit (.int .i64 (cv+1))) [] (plainElem_int Tryz.underlying3 ab0) ?_;intro w1 hown1 hg1))
     refine⟨⟨q+1,by go_num,by omega,⟨?_,((WY.out.alloc _).alloc _).grown hg1 (fun k e=>.inr (by injection e with e;omega))⟩⟩,by simp[intOf];omega⟩;rw[HPS.out,hme,if_pos rfl];refine⟨nn+1,_,hown1,by rw[List.length_append,List.length_singleton];omega,?_⟩;have h9:=UA (x:=nd.at') ab2.out HCD.out;rw[HCV.out]at h9
     exact h9
   ·obtain rfl:q=R.length:=by omega
    have hpl:=Ma R R.length;obtain⟨pl,Xa⟩:∃x,tN R R.length=x:=⟨_,rfl⟩
    rw[Xa]at hcnt hpl HO
    clear Xa;obtain⟨nn,D,hown,hnn,hcd⟩:=hcnt
    have hsD:Maps.size D≤nn:=hown.size_le;have hso:=Sj mb nn D wr hown (by simp[maxLen];omega) (by omega);have ab4:=hown.lt;have hown2:=fun X (hX:Fr [] wr X)=>fI hown (hX.block _ ab4 (by simp))
    have HCS:=Lib.hid (fun ss hp=>KT (ss:=ss) hown hcd hp);have HWF:=Lib.hid (fun(ss:List Int) (hp:ss.Perm (intKeys D)) x (hx:x∈ss.mergeSort leI)=>intKeys_wf hown Tryz.underlying3 x (hp.mem_iff.1 ((List.mergeSort_perm ss leI).mem_iff.1 hx)));have WY:=Lib.hid hfr;have HCD:=Lib.hid hcd;clear hown hcd hfr
    go_wp2_with (first|(go_at_call 22;refine(WX _ _).mono ?_;rintro e w5 ⟨rfl,rfl⟩)|(go_at_call 21;refine hso.mono ?_;rintro e w5 ⟨v,ss,rfl,hperm,hrow,hnil,fF⟩;have ab5:=Lib.hid (HCS.out ss hperm);obtain⟨a,cap,rfl,hc1,hc2,hcells⟩:=Qr hrow;have Xb:=Lib.hid hcells;have ab6:=Lib.hid (HWF.out ss hperm);clear HCS HWF hperm hnil hcells hrow))
    have hKN:(ss.mergeSort leI).length=ss.length:=List.length_mergeSort _;clear hso;generalize ss.mergeSort leI=K at *;generalize ss.length=N at *;have hOut:out=sS pl K N:=by rw[HO.out,←ab5.out,←hKN,Iz]
    have hol:(sS pl K N).length≤3000000:=by
     rw[←hOut,HO.out,List.length_mergeSort];omega
    have HOQ:Hid (∀q,(sS pl K q).length≤3000000):=fun q=>Nat.le_trans (Sk pl K q) (by rw[hKN];exact hol)
    have ab7:=Lib.hid hOut;have nI:=Lib.hid fF;have hown5:=fun X (hX:Fr [] w5 X)=>hown2 X (fF.trans hX)
    have hN3:(N:Int)≤9223372036854775807:=by unfold maxLen at hc2;omega
    have HKN:=Lib.hid hKN;clear hOut hol hown2 hKN fF
    go_loopw [6,32] (fun o j wr2=>∃q:Nat,j=.int .i64 q∧q≤N∧Hid (wr2.ownsRow w5.heap.size 3 1 o (sS pl K q).length ((sS pl K q).map encZ)∧Fr [] w5 wr2)) (fun _ j _=>N-(intOf j).toNat)
    case atStart=>exact⟨0,rfl,Nat.zero_le _,⟨World.ownsRow_nil _ _ _ _,Fr.refl _ _⟩⟩
    case round =>
     obtain⟨q,rfl,hq2,hq⟩:=hrel
     obtain⟨hrow,hfr2⟩:=hq.out
     clear hq;have Xc:=Lib.hid hrow;have Xd:=Lib.hid hfr2;by_cases hlt:q<N
     ·obtain⟨x,hx⟩:∃x,K[q]? = some x:=⟨_,List.getElem?_eq_getElem (by rw[HKN.out];exact hlt)⟩
      obtain⟨gs,rfl,hgs,hcl⟩:=Xb.out q x hx
      have aeL:=(hfr2.nQ (p:=⟨gs,q,none⟩) hgs (by simp)).trans hcl;have hown3:=hown5 _ hfr2;have hkey:keyOf Tryz.prog 3 (.int .i64 x)=some (.int .i64 x):=Tz (ab6.out x (List.mem_of_getElem? hx));have Qu:=(HCD.out x).2;obtain⟨cn,hcn⟩:∃cn:Nat,pl.count x=cn:=⟨_,rfl⟩
      rw[hcn]at Qu
      have aeM:(cn:Int)≤3000000:=by have:=List.count_le_length (a:=x) (l:=pl);omega
      have hos:=NG (pl:=pl) hx;rw[hcn]at hos
      have HOS:=Lib.hid hos;have ab8:=HOQ.out (q+1);rw[hos,List.length_append,List.length_replicate]at ab8
      clear hrow hfr2 hcl hx hcn hos
      go_wp2_with (at_lookup;refine wpList_lookup_own_int _ rfl _ _ 51 rfl 3 3 .i64 FX Tryz.underlying51 Tryz.underlying3 (Hz _) mb nn D rfl hown3 _ _ rfl hkey ?_;intro cv2 Qv WZ;rw[Qu]at Qv;obtain rfl:(cn:Int)=cv2:=by injection Qv with e1;injection e1)
      go_loopw [6,39] (fun o j wr3=>∃r:Nat,j=.int .i64 r∧r≤cn∧Hid (wr3.ownsRow w5.heap.size 3 1 o ((sS pl K q).length+r) ((sS pl K q++List.replicate r x).map encZ)∧Fr [] w5 wr3)) (fun _ j _=>cn-(intOf j).toNat)
      case atStart=>exact⟨0,rfl,Nat.zero_le _,⟨by simpa using Xc.out,Xd.out⟩⟩
      case round =>
       obtain⟨r,rfl,hr2,hr⟩:=hrel
       have HRR:=Lib.hid hr.out.1;have HF9:=Lib.hid hr.out.2;clear hr;by_cases hlr:r<cn
       ·go_wp2_with (at_builtin;refine wpList_append_own _ rfl _ _ 36 rfl w5.heap.size 3 i0 (.int .i64 0) 1 8 Tryz.underlying36 hi0 hz0 hz1 hz2 rfl (by decide) _ _ _ rfl (bR HRR.out (World.grownBy_alloc _ _ none) (fun k e=>by cases e)) ⟨_,0,none⟩ 1 1 [.int .i64 x] rfl rfl ?c1 ?c2 ?c3 ?c4 ?c5 ?_)
        case c1=>exact cell_one_new _ _ _
        case c2=>simp[Value.oneCell']
        case c3=>simp[maxLen];omega
        case c4=>omega
        case c5=>have:=HF9.out.size;simp;omega
        intro v' w1 hown' hgrow _;have HG:=Lib.hid hgrow;have HOW:=Lib.hid hown';clear hgrow hown';go_wp2;refine⟨⟨r+1,by go_num,by omega,⟨?_,(HF9.out.alloc _).grown HG.out (fun k e=>.inr (Qs HRR.out e))⟩⟩,by simp[intOf];omega⟩
        have h9:List.map encZ (sS pl K q++List.replicate (r+1) x)=List.map encZ (sS pl K q)++(List.replicate r (encZ x)++[Value.int .i64 x]):=by
         rw[List.replicate_succ'];simp
        rw[h9,←Nat.add_assoc];exact HOW.out
       ·obtain rfl:r=cn:=by omega
        go_wp2;refine⟨⟨q+1,by go_num,by omega,⟨?_,HF9.out⟩⟩,by simp[intOf];omega⟩;rw[HOS.out,List.length_append,List.length_replicate];exact HRR.out
     ·obtain rfl:q=N:=by omega
      go_wp2;go_ret;refine⟨_,rfl,(WY.out.trans nI.out).trans Xd.out,?_⟩;rw[ab7.out];exact ownsRow_base_a Xc.out ((WY.out.trans nI.out).size)
end Go.Proofs.YtoomapkcoibmhaaGreatDoor
end
