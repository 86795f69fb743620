/- A part of the proof. -/
import Derived.Recover
import Derived.Test.YtoomapkcoibmhaaGreatDoorQ17
import Derived.Test.YtoomapkcoibmhaaGreatDoorQ18
import Derived.Test.YtoomapkcoibmhaaGreatDoorQ19
set_option maxRecDepth 100000
set_option maxHeartbeats 12800000
set_option linter.all false
section
open Go Go.Proofs Go.RowKit Go.Shelf Ck
namespace Go.Proofs.YtoomapkcoibmhaaGreatDoor
structure TT (S:jf) (r:Rec):Prop where
 block:iU 73 S r.block
 statement:iU 103 S r.statement
 choice:iU 155 S r.choice
 loop:EY S r.loop
 expr:iU 154 S r.expr
 and':iU 186 S r.and'
 not':iU 217 S r.not'
 level:mQ S r.level
 unary:iU 286 S r.unary
 primary:iU 298 S r.primary
theorem GD (S:jf):∀n,TT S (recs S.F n)
 | 0=>⟨fun _ _ _ _ h=>(by cases h),fun _ _ _ _ h=>(by cases h),fun _ _ _ _ h=>(by cases h),fun _ _ _ _ _ _ _ h=>(by cases h),fun _ _ _ _ h=>(by cases h),fun _ _ _ _ h=>(by cases h),fun _ _ _ _ h=>(by cases h),fun _ _ _ _ _ _ h=>(by cases h),fun _ _ _ _ h=>(by cases h),fun _ _ _ _ h=>(by cases h)⟩
 | n+1=>by
  have ih:=GD S n;have hc:=qp S.F n;have hs:=zY S.F n;exact⟨MK hc.statement ih.statement,CV hs.expr ih.expr ih.choice ih.loop,Jz ih.expr ih.block ih.choice,OZ ih.expr ih.block,OW ih.and',Rw ih.not',Ry ih.not' ih.level,MJ ih.level ih.unary,MI ih.unary ih.primary ih.expr,Gz hc.expr ih.expr⟩
theorem Fa (S:jf) (n:Nat):iU 25 S (fU S.F n) :=
 GA (pX (qp S.F n) n) (E9 (GD S n).block)
@[go_sem] theorem TW (v:Value) (w:World):(Instr.typeAssert (.iface 26 v) 20 26 true).run Tryz.prog w=.ok (.tuple #[v,.bool true]) w:=by kernel_rfl
theorem JG (p q:Nat) (w:World) :
  CallsD Tryz.prog 23 #[.pointer (some ⟨p,0,none⟩),.pointer (some ⟨q,0,none⟩)] .returning w fun e u' w'=>e=.returned (.tuple #[])∧u'=.returning∧w'=w:=by
 refine callsD_of_wpS Tryz.func23 rfl fun c₀ cs hu=>?_
 apply wpS_seq;apply wpS_region;simp[wpOpsS,go_sem,recoverD,hu,Tryz.ntmps23,Exit.thenS];refine wpS_of_wp ?_;simp only[Array.replicate_succ,Array.replicate_zero,List.push_toArray,List.append_toArray,List.nil_append,List.cons_append,List.setIfInBounds_toArray,List.set_cons_zero,List.set_cons_succ];go_wp2;cases c₀;simp_all[bodyPostS,results,Tryz.results23]
theorem GI (p q:Nat) (f:dS) (lv:Value) (fv:Array Value) (older:List PanicEntry) (w:World) (hp:au w p #[lv] 23) (hq:au w q #[.int .i64 0,.int .i64 0] 26) (hpq:p≠q) :
  CallsD Tryz.prog 23 #[.pointer (some ⟨p,0,none⟩),.pointer (some ⟨q,0,none⟩)] (.panicking ({ v:=.iface 26 (.agg #[.int .i64 f.code,.int .i64 f.at']),recovered:=false }::older)) w fun e u' w' =>
   e=.returned (.tuple #[])∧u'=.panicking ({ v:=.iface 26 (.agg #[.int .i64 f.code,.int .i64 f.at']),recovered:=true }::older) ∧
   au w' p #[.slice none 0 0] 23∧au w' q #[.int .i64 f.code,.int .i64 f.at'] 26∧Fr [p,q] w w':=by
 have hqp:q≠p:=fun e=>hpq e.symm
 obtain⟨kc,kz,aH,kb⟩:=hp.rules
 obtain⟨rc,rz,bE,rb⟩:=hq.rules
 have jY:∀k,p<w.heap.size+k:=fun k=>by omega
 have O6:∀k,q<w.heap.size+k:=fun k=>by omega
 refine callsD_of_wpS Tryz.func23 rfl fun c₀ cs hu=>?_
 apply wpS_seq;apply wpS_region;simp[wpOpsS,go_sem,recoverD,hu,Tryz.ntmps23,Exit.thenS];refine wpS_of_wp ?_;simp only[Array.replicate_succ,Array.replicate_zero,List.push_toArray,List.append_toArray,List.nil_append,List.cons_append,List.setIfInBounds_toArray,List.set_cons_zero,List.set_cons_succ];go_wp2
 go_region
 all_goals go_wp2
 have h1:au ((Ck.blk (Ck.blk w q #[.int .i64 f.code,.int .i64 f.at'] 26) p #[.slice none 0 0] 23).alloc (.cells #[.int .i64 f.code,.int .i64 f.at'] 26)).drew p #[.slice none 0 0] 23:=(au.blk (by rw[aB];exact kb)).alloc _;have h2:au ((Ck.blk (Ck.blk w q #[.int .i64 f.code,.int .i64 f.at'] 26) p #[.slice none 0 0] 23).alloc (.cells #[.int .i64 f.code,.int .i64 f.at'] 26)).drew q #[.int .i64 f.code,.int .i64 f.at'] 26:=(au.aL (au.blk rb) hqp).alloc _;have h3:Fr [p,q] w ((Ck.blk (Ck.blk w q #[.int .i64 f.code,.int .i64 f.at'] 26) p #[.slice none 0 0] 23).alloc (.cells #[.int .i64 f.code,.int .i64 f.at'] 26)).drew:=((((Fr.refl _ _).blk (.inl (by simp)) _ _).blk (.inl (by simp)) _ _).alloc _).drew;simp[bodyPostS,results,Tryz.results23,h1,h2,h3]
theorem nP (fn:Fn) (first cap:Array Value) (w:World):(Instr.makeFunc fn first cap).run Tryz.prog w=.ok (.func fn first cap) w:=rfl
def Ae (w:World) (n:Nat) (s:Bytes) (e:Ending) (w':World):Prop :=
 ∃l f v,parseWith n s=some (l,f)∧e=.returned (.tuple #[v,.agg #[.int .i64 f.code,.int .i64 f.at']])∧w'.ownsRow w.heap.size 40 6 v l.length (kY l)∧Fr [] w w'
theorem JH {lo hi k:Nat} (h:k∈RS lo hi (.slice none 0 0)):lo≤k∧k<hi:=by
 rcases sj.1 h with h1|h1
 ·exact h1
 ·simp[Value.ownBlock]at h1
theorem jf.RA (S:jf):S.ts 0=iM S.toks 0:=by simp[jf.ts]
theorem MN (s:Bytes) (w:World) (hV:Vars w) (n:Nat) (hn:parseWith n s≠none) (hs:s.length≤140737488351232) (hsz:∀l f,parseWith n s=some (l,f)→l.length≤1000000000) :
  Calls Tryz.prog 14 #[.string ⟨s.toArray⟩] w (Ae w n s):=by
 have hmf:=nP;have hb:=MF s ((w.alloc (.cells #[.slice none 0 0] 23)).alloc (.cells #[.int .i64 0,.int .i64 0] 26)) (hV.fr (((Fr.refl [] _).alloc _).alloc _) (by simp)) hs;have hp0:au ((w.alloc (.cells #[.slice none 0 0] 23)).alloc (.cells #[.int .i64 0,.int .i64 0] 26)) w.heap.size #[.slice none 0 0] 23:=(au.new w _ _).alloc _
 have hq0:au ((w.alloc (.cells #[.slice none 0 0] 23)).alloc (.cells #[.int .i64 0,.int .i64 0] 26)) (w.heap.size+1) #[.int .i64 0,.int .i64 0] 26:=by
  have:=au.new (w.alloc (.cells #[.slice none 0 0] 23)) #[.int .i64 0,.int .i64 0] 26
  simpa using this
 have xq:Fr [] w ((w.alloc (.cells #[.slice none 0 0] 23)).alloc (.cells #[.int .i64 0,.int .i64 0] 26)):=((Fr.refl _ _).alloc _).alloc _;cases hm:fU (aM s).2 n (iM (aM s).1 0) with
 | none=>rw[parseWith,hm]at hn;exact absurd rfl hn
 | some R =>
  have hP:∀(S:jf) (W:World),S.toks=(aM s).1→S.F=(aM s).2→PS S 0 W→Calls Tryz.prog 25 #[.pointer (some ⟨S.bp,0,none⟩)] W (Rv S W W.heap.size R):=fun S W h1 h2 hW=>by
   refine Fa S n 0 W R hW ?_;rw[S.RA,h1,h2];exact hm
  cases R with
  | error f =>
   have HP:Hid (parseWith n s=some ([],f)):=by show _=_;rw[parseWith,hm]
   clear hm hn hsz
   go_enter_defers Tryz.func14,Tryz.ntmps14
   go_wp2_with (first|(go_at_call 24;refine hb.mono ?_;rintro e w1 ⟨rfl,hBI⟩;obtain⟨S,e1,e2,e3,hps,hf1⟩:=PS.Gy hBI;have hc:=hP S w1 e1 e2 hps;rw[e3]at hc;simp only[World.size_alloc]at hc)|(go_at_call 25;refine hc.mono ?_;rintro e w2 ⟨rfl,hf2⟩))
   have hp2:=(hp0.fr hf1 (by simp)).fr hf2 (by rw[e3];simp;omega);have hq2:=(hq0.fr hf1 (by simp)).fr hf2 (by rw[e3];simp);refine leaves_cons (f:=23) (args:=#[.pointer (some ⟨w.heap.size,0,none⟩),.pointer (some ⟨w.heap.size+1,0,none⟩)]) (by simp) (by simp[go_sem]) ?_;refine(GI w.heap.size (w.heap.size+1) f _ #[] [] w2 hp2 hq2 (by omega)).mono ?_
   rintro e u' w3 ⟨rfl,rfl,hp3,hq3,hf3⟩;obtain⟨pc,pz,ES,pb⟩:=hp3.rules
   obtain⟨qc,qz,bS,qb⟩:=hq3.rules
   have hF:Fr [] w w3:=((xq.trans hf1).then hf2 (by rw[e3];simp;omega)).then hf3 (by simp);have hout:Ae w n s (.returned (.tuple #[.slice none 0 0,.agg #[.int .i64 f.code,.int .i64 f.at']])) w3:=⟨[],f,_,HP.out,rfl,⟨rfl,.inl ⟨rfl,rfl⟩⟩,hF⟩
   simp[Leaves,settle,results,Tryz.results14,go_sem,pc,qc];exact hout
  | ok p =>
   obtain⟨T,ts'⟩:=p
   have HP:parseWith n s=some (T.row,⟨0,0⟩):=by rw[parseWith,hm]
   have hlen:=hsz _ _ HP;have HP:=Lib.hid HP;clear hm hn hsz
   go_enter_defers Tryz.func14,Tryz.ntmps14
   go_wp2_with (first|(go_at_call 24;refine hb.mono ?_;rintro e w1 ⟨rfl,hBI⟩;obtain⟨S,e1,e2,e3,hps,hf1⟩:=PS.Gy hBI;have hc:=hP S w1 e1 e2 hps;rw[e3]at hc;simp only[World.size_alloc]at hc)|(go_at_call 25;refine hc.mono ?_;rintro e w2 ⟨b2,a2,rfl,rfl,aG,hf2,hs2⟩;have hp2:=(hp0.fr hf1 (by simp)).fr hf2 (by rw[e3];simp;omega);have hq2:=(hq0.fr hf1 (by simp)).fr hf2 (by rw[e3];simp);have hw1:=hf1.size;simp only[World.size_alloc]at hw1)|(go_at_call 26;refine(LC _ T (Nat.le_refl _) w2 _ _ b2 w2.heap.size (.slice none 0 0) [] hs2 (Nat.le_refl _) (Nat.le_refl _) ⟨rfl,.inl ⟨rfl,rfl⟩⟩ (by simpa using hlen)).mono ?_;rintro e w3 ⟨v3,rfl,hown3,hf3,CQ⟩;have hv3:∃p m q,v3=.slice p m q:=(by rcases hown3.2 with⟨rfl,_⟩|⟨g,cap,cur,rfl,_⟩<;>exact⟨_,_,_,rfl⟩);obtain⟨x3,m3,c3,rfl⟩:=hv3;have hp3:=hp2.fr hf3 (fun hm=>by have:=JH hm;omega);have hq3:=hq2.fr hf3 (fun hm=>by have:=JH hm;omega);obtain⟨pc,pz,ES,pb⟩:=hp3.rules;obtain⟨qc,qz,bS,qb⟩:=hq3.rules))
   have hF:Fr [] w (Ck.blk (Ck.blk w3 (w.heap.size+1) #[.int .i64 0,.int .i64 0] 26) w.heap.size #[.slice x3 m3 c3] 23) :=
    ((((xq.trans hf1).then hf2 (by rw[e3];simp;omega)).then hf3 (fun k hk=>.inr (by have:=JH hk;omega))).blk (.inr (by omega)) _ _).blk (.inr (Nat.le_refl _)) _ _
   have hw2:=hf2.size
   have hO:(Ck.blk (Ck.blk w3 (w.heap.size+1) #[.int .i64 0,.int .i64 0] 26) w.heap.size #[.slice x3 m3 c3] 23).ownsRow w.heap.size 40 6 (.slice x3 m3 c3) T.row.length (kY T.row) :=
    gZ (eB (eB (by simpa using hown3) (by omega)) (by omega)) (by omega)
   have U4:au (Ck.blk (Ck.blk w3 (w.heap.size+1) #[.int .i64 0,.int .i64 0] 26) w.heap.size #[.slice x3 m3 c3] 23) w.heap.size #[.slice x3 m3 c3] 23:=au.blk (by rw[aB];exact pb);have U5:au (Ck.blk (Ck.blk w3 (w.heap.size+1) #[.int .i64 0,.int .i64 0] 26) w.heap.size #[.slice x3 m3 c3] 23) (w.heap.size+1) #[.int .i64 0,.int .i64 0] 26:=au.aL (au.blk qb) (by omega);obtain⟨W4,oW⟩:∃X,X=Ck.blk (Ck.blk w3 (w.heap.size+1) #[.int .i64 0,.int .i64 0] 26) w.heap.size #[.slice x3 m3 c3] 23:=⟨_,rfl⟩
   rw[←oW]at hF hO U4 U5 ⊢
   clear oW;obtain⟨uc,uz,uset,ub⟩:=U4.rules
   obtain⟨vc,vz,RB,vb⟩:=U5.rules
   refine leaves_cons (f:=23) (args:=#[.pointer (some ⟨w.heap.size,0,none⟩),.pointer (some ⟨w.heap.size+1,0,none⟩)]) (by simp) (by simp[go_sem]) ?_;refine(JG w.heap.size (w.heap.size+1) W4).mono ?_
   rintro e u' w5 ⟨rfl,rfl,rfl⟩;have hout:Ae w n s (.returned (.tuple #[.slice x3 m3 c3,.agg #[.int .i64 0,.int .i64 0]])) w5:=⟨T.row,⟨0,0⟩,_,HP.out,rfl,hO,hF⟩
   simp[Leaves,settle,results,Tryz.results14,go_sem,uc,vc];exact hout
theorem MO (s:Bytes) (w:World) (hV:Vars w) (hs:s.length≤140737488351232) :
  Calls Tryz.prog 14 #[.string ⟨s.toArray⟩] w fun e w'=>∃v,e=.returned (.tuple #[v,.agg #[.int .i64 (parse s).2.code,.int .i64 (parse s).2.at']])∧w'.ownsRow w.heap.size 40 6 v (parse s).1.length (kY (parse s).1)∧Fr [] w w':=by
 refine(MN s w hV (fuel s) (uP s) hs (fun l f h=>?_)).mono ?_
 ·have:=Af s _ l f h
  have:=qV s
  omega
 ·rintro e w' ⟨l,f,v,h1,rfl,h3,h4⟩;have h1:(l,f)=parse s:=by rw[Ag s]at h1;exact(Option.some.inj h1).symm
  rw[←h1];exact⟨v,rfl,h3,h4⟩
end Go.Proofs.YtoomapkcoibmhaaGreatDoor
end
