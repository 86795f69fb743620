/- A part of the proof. -/
import Derived.Test.YtoomapkcoibmhaaGreatDoorQ20
import Derived.Test.YtoomapkcoibmhaaGreatDoorQ26
set_option maxRecDepth 100000
set_option maxHeartbeats 12800000
set_option linter.all false
section
open Go Go.Proofs Go.RowKit Go.Shelf Ck
namespace Ck
theorem AX:∀l:List Bytes,Lib.join l [32]=nE l
 | []=>rfl
 | [x]=>by rw[Lib.join_one];rfl
 | x::y::l=>by
  rw[Lib.join_cons];have h:=AX (y::l);rw[Lib.join_cons]at h
  rw[nE,←h];simp[Lib.joinTail]
theorem xK:∀l:List Bytes,(nE l).length≤tw l
 | []=>by simp[nE]
 | [x]=>by rw[pJ];simp[nE];omega
 | x::y::l=>by
  have:=xK (y::l)
  rw[pJ,nE,List.length_append,List.length_cons];omega
end Ck
namespace Go.Proofs.YtoomapkcoibmhaaGreatDoor
theorem D8 (a b:Bytes):(⟨a.toArray⟩:ByteArray)++(⟨b.toArray⟩:ByteArray)=⟨(a++b).toArray⟩:=by
 apply ByteArray.ext;simp
@[go_sem] theorem RU (v:Value) (w:World):(Instr.typeAssert (.iface 91 v) 20 91 true).run Tryz.prog w=.ok (.tuple #[v,.bool true]) w:=by kernel_rfl
theorem AY (p q:Nat) (w:World) :
  CallsD Tryz.prog 46 #[.pointer (some ⟨p,0,none⟩),.pointer (some ⟨q,0,none⟩)] .returning w fun e u' w'=>e=.returned (.tuple #[])∧u'=.returning∧w'=w:=by
 refine callsD_of_wpS Tryz.func46 rfl fun c₀ cs hu=>?_
 apply wpS_seq;apply wpS_region;simp[wpOpsS,go_sem,recoverD,hu,Tryz.ntmps46,Exit.thenS];refine wpS_of_wp ?_;simp only[Array.replicate_succ,Array.replicate_zero,List.push_toArray,List.append_toArray,List.nil_append,List.cons_append,List.setIfInBounds_toArray,List.set_cons_zero,List.set_cons_succ];go_wp2;cases c₀;simp_all[bodyPostS,results,Tryz.results46]
theorem yK (p q:Nat) (older:List PanicEntry) (w:World) (hp:au w p #[.string ⟨#[]⟩] 9) (hq:au w q #[.int .i64 0] 24) (hpq:p≠q) :
  CallsD Tryz.prog 46 #[.pointer (some ⟨p,0,none⟩),.pointer (some ⟨q,0,none⟩)] (.panicking ({ v:=.iface 91 (.agg #[]),recovered:=false }::older)) w fun e u' w' =>
   e=.returned (.tuple #[])∧u'=.panicking ({ v:=.iface 91 (.agg #[]),recovered:=true }::older) ∧
   au w' p #[.string ⟨#[]⟩] 9∧au w' q #[.int .i64 72] 24∧Fr [p,q] w w':=by
 have hqp:q≠p:=fun e=>hpq e.symm
 obtain⟨kc,kz,aH,kb⟩:=hp.rules
 obtain⟨rc,rz,bE,rb⟩:=hq.rules
 have jY:∀k,p<w.heap.size+k:=fun k=>by omega
 have O6:∀k,q<w.heap.size+k:=fun k=>by omega
 refine callsD_of_wpS Tryz.func46 rfl fun c₀ cs hu=>?_
 apply wpS_seq;apply wpS_region;simp[wpOpsS,go_sem,recoverD,hu,Tryz.ntmps46,Exit.thenS];refine wpS_of_wp ?_;simp only[Array.replicate_succ,Array.replicate_zero,List.push_toArray,List.append_toArray,List.nil_append,List.cons_append,List.setIfInBounds_toArray,List.set_cons_zero,List.set_cons_succ];go_wp2;have h1:au ((Ck.blk (Ck.blk w q #[.int .i64 72] 24) p #[.string ⟨#[]⟩] 9).alloc (.cells #[] 91)) p #[.string ⟨#[]⟩] 9:=(au.blk (by rw[aB];exact kb)).alloc _;have h2:au ((Ck.blk (Ck.blk w q #[.int .i64 72] 24) p #[.string ⟨#[]⟩] 9).alloc (.cells #[] 91)) q #[.int .i64 72] 24:=(au.aL (au.blk rb) hqp).alloc _;have h3:Fr [p,q] w ((Ck.blk (Ck.blk w q #[.int .i64 72] 24) p #[.string ⟨#[]⟩] 9).alloc (.cells #[] 91)):=(((Fr.refl _ _).blk (.inl (by simp)) _ _).blk (.inl (by simp)) _ _).alloc _;simp[bodyPostS,results,Tryz.results46,h1,h2,h3]
def sH:Option Bytes→Ending
 | some t=>.returned (.tuple #[.string ⟨t.toArray⟩,.int .i64 0])
 | none=>.returned (.tuple #[.string ⟨#[]⟩,.int .i64 72])
theorem D9 (l:List Ck.Node) (v:Value) (w:World) (hV:Vars w) (hN:TY w.heap.size w v l) (hok:∀n∈l,uQ n) (hlim:l.length≤1099511627776) (wh:cost l≤1099511627000) :
  Calls Tryz.prog 27 #[v] w (fun e w'=>e=sH (print l)∧Fr [] w w'):=by
 have hmf:=nP;have hnn:=vS l (vR l) (Nat.le_refl _) wh;have hpe:=GQ l wh;have hgl:=hV.le;have hval:∃x c,v=.slice x l.length c:=by obtain⟨x,c,e,_⟩:=hN;exact⟨x,c,e⟩
 obtain⟨x,c,rfl⟩:=hval
 obtain⟨W0,hW0⟩:∃X,X=((w.alloc (.cells #[.string ⟨#[]⟩] 9)).alloc (.cells #[.int .i64 0] 24)).alloc (.cells #[.slice x l.length c,.int .i64 0,.slice none 0 0] 94):=⟨_,rfl⟩
 have xq:Fr [] w W0:=by rw[hW0];exact(((Fr.refl _ _).alloc _).alloc _).alloc _
 have hp0:au W0 w.heap.size #[.string ⟨#[]⟩] 9:=by rw[hW0];exact((au.new w _ _).alloc _).alloc _
 have hq0:au W0 (w.heap.size+1) #[.int .i64 0] 24:=by
  rw[hW0]
  have:=au.new (w.alloc (.cells #[.string ⟨#[]⟩] 9)) #[.int .i64 0] 24
  simp only[World.size_alloc]at this;exact this.alloc _
 have hb0:au W0 (w.heap.size+1+1) #[.slice x l.length c,.int .i64 0,.slice none 0 0] 94:=by
  rw[hW0]
  have:=au.new ((w.alloc (.cells #[.string ⟨#[]⟩] 9)).alloc (.cells #[.int .i64 0] 24)) #[.slice x l.length c,.int .i64 0,.slice none 0 0] 94
  simpa using this
 have hQS:QS ⟨l,.slice x l.length c,w.heap.size+1+1⟩ 0 [] W0:=by
  refine⟨⟨_,hb0,⟨rfl,.inl ⟨rfl,rfl⟩⟩⟩,?_,hlim,Nat.zero_le _,by show _≤w.heap.size+1+1;omega,hV.fr xq (by simp),hok,by decide⟩;obtain⟨x',c',e,h⟩:=hN
  refine⟨x',c',e,fun hn=>?_⟩;obtain⟨g,e1,g1,g2,g3⟩:=h hn
  exact⟨g,e1,by show g<w.heap.size+1+1;omega,xq.lt g2,fun i n hi k hk=>(xq.nQ (p:=⟨g,i*6+k,none⟩) g2 (by simp)).trans (g3 i n hi k hk)⟩
 have hsz0:W0.heap.size=w.heap.size+1+1+1:=by rw[hW0];simp
 clear hN;have hFB:∀w2:World,Below (w.heap.size+1+1) W0 w2→Fr [] w w2:=fun w2 h=>⟨h.os.trans xq.os,h.tape.trans xq.tape,h.output.trans xq.output,Nat.le_trans xq.size h.size,fun b hb _=>(h.block b (by omega)).trans (xq.block b hb (by simp))⟩
 cases hm:jV (precs (vR l)) (l,[]) with
 | none=>exact absurd hm hnn
 | some r =>
  have hc:=Kj ⟨l,.slice x l.length c,w.heap.size+1+1⟩ (vR l) 0 [] W0 r hQS hm;cases r with
  | none =>
   have hpn:print l=none:=by
    unfold lQ at hpe;rw[hm]at hpe;simpa using hpe.symm
   have HP:=Lib.hid hpn
   have hc2:Calls Tryz.prog 47 #[.pointer (some ⟨w.heap.size+1+1,0,none⟩)] W0 (fun e w'=>e=.panicked [{ v:=.iface 91 (.agg #[]),recovered:=false }]∧Below (w.heap.size+1+1) W0 w'):=by
    refine hc.mono ?_;rintro e w' (⟨_,he,hf⟩|⟨y,a,t,e1,_⟩)
    ·exact⟨he,hQS.low hf⟩
    ·cases e1
   clear hc hm hpe hnn hpn;rw[hW0]at hc2
   go_enter_defers Tryz.func27,Tryz.ntmps27
   go_wp2_with (first|(go_at_call 47;refine hc2.mono ?_;rintro e w2 ⟨rfl,hf2⟩))
   rw[←hW0]at hf2
   have hp2:au w2 w.heap.size #[.string ⟨#[]⟩] 9:=(hf2.block _ (by omega)).trans hp0;have hq2:au w2 (w.heap.size+1) #[.int .i64 0] 24:=(hf2.block _ (by omega)).trans hq0;refine leaves_cons (f:=46) (args:=#[.pointer (some ⟨w.heap.size,0,none⟩),.pointer (some ⟨w.heap.size+1,0,none⟩)]) (by simp) (by simp[go_sem]) ?_;refine(yK w.heap.size (w.heap.size+1) [] w2 hp2 hq2 (by omega)).mono ?_
   rintro e u' w3 ⟨rfl,rfl,hp3,hq3,hf3⟩;obtain⟨pc,pz,ES,pb⟩:=hp3.rules
   obtain⟨qc,qz,bS,qb⟩:=hq3.rules
   have hF:Fr [] w w3:=(hFB _ hf2).then hf3 (by simp);have hout:Ending.returned (.tuple #[.string ⟨#[]⟩,.int .i64 72])=sH (print l)∧Fr [] w w3:=⟨by rw[HP.out];rfl,hF⟩
   simp[Leaves,settle,results,Tryz.results27,go_sem,pc,qc];exact hout
  | some p =>
   obtain⟨y,rest,toks⟩:=p
   have hc2:Calls Tryz.prog 47 #[.pointer (some ⟨w.heap.size+1+1,0,none⟩)] W0 (fun e w'=>∃a,e=.returned (.tuple #[])∧rest=l.drop a∧QS ⟨l,.slice x l.length c,w.heap.size+1+1⟩ a toks w'∧Below (w.heap.size+1+1) W0 w'):=by
    refine hc.mono ?_;rintro e w' (⟨e1,_⟩|⟨y',a,t,e1,he,hq,hf⟩)
    ·cases e1
    ·cases e1;exact⟨a,he,rfl,hq,hQS.low hf⟩
   have hpr:print l=if rest.isEmpty then some (if toks.isEmpty then[]else nE toks++[10])else none:=by
    unfold lQ at hpe;rw[hm]at hpe
    simp only at hpe;split at hpe<;>rename_i h<;>simp[h]at hpe ⊢ <;> exact hpe.symm
   clear hc hm hpe hnn;rw[hW0]at hc2
   have HPR:=Lib.hid hpr;clear hpr
   go_enter_defers Tryz.func27,Tryz.ntmps27
   go_upto_region 4 with(first|(go_at_call 47;refine hc2.mono ?_;rintro e w2 ⟨a,rfl,hra,hq,hf2⟩))
   rw[←hW0]at hf2
   obtain⟨x',c',vt,hB,hown,hvl⟩:=hq.open
   have ha:=hq.ha;have hroom:=Lib.hid hq.room;simp only at hB hvl ha;injection hvl with _ _ hc';subst hc';obtain⟨kc,kz,aH,kb⟩:=hB.rules
   cases hal:((a:Int)==(l.length:Int))
   ·have hpn:print l=none:=by
     rw[HPR.out,hra]
     have:a≠l.length:=by have h:=hal;simp at h;omega
     have h2:(l.drop a).isEmpty=false:=by
      cases h:l.drop a with
      | nil=>have:=List.drop_eq_nil_iff.1 h;omega
      | cons _ _=>rfl
     rw[h2];rfl
    have HP:=Lib.hid hpn;clear hpn
    go_wp2_with (go_at_call 48;with_reducible refine(jE _).mono ?_;rintro e w3 ⟨rfl,rfl⟩)
    have hp2:au w2 w.heap.size #[.string ⟨#[]⟩] 9:=(hf2.block _ (by omega)).trans hp0;have hq2:au w2 (w.heap.size+1) #[.int .i64 0] 24:=(hf2.block _ (by omega)).trans hq0;refine leaves_cons (f:=46) (args:=#[.pointer (some ⟨w.heap.size,0,none⟩),.pointer (some ⟨w.heap.size+1,0,none⟩)]) (by simp) (by simp[go_sem]) ?_;refine(yK w.heap.size (w.heap.size+1) [] w2 hp2 hq2 (by omega)).mono ?_
    rintro e u' w3 ⟨rfl,rfl,hp3,hq3,hf3⟩;obtain⟨pc,pz,ES,pb⟩:=hp3.rules
    obtain⟨qc,qz,bS,qb⟩:=hq3.rules
    have hF:Fr [] w w3:=(hFB _ hf2).then hf3 (by simp);have hout:Ending.returned (.tuple #[.string ⟨#[]⟩,.int .i64 72])=sH (print l)∧Fr [] w w3:=⟨by rw[HP.out];rfl,hF⟩
    simp[Leaves,settle,results,Tryz.results27,go_sem,pc,qc];exact hout
   ·have hre:rest.isEmpty=true:=by
     have:a=l.length:=by have h:=hal;simp at h;omega
     rw[hra,this,List.drop_length];rfl
    have hp2:au w2 w.heap.size #[.string ⟨#[]⟩] 9:=(hf2.block _ (by omega)).trans hp0;have hq2:au w2 (w.heap.size+1) #[.int .i64 0] 24:=(hf2.block _ (by omega)).trans hq0;have PE:Hid (print l=some (if toks.isEmpty then[]else nE toks++[10])):=by show _=_;rw[HPR.out,hre];rfl
    clear HPR hre;cases toks with
    | nil =>
     have hv0:∃xv cv,vt=.slice xv 0 cv:=by rcases hown.2 with⟨rfl,_⟩|⟨g,cap,cur,rfl,_⟩<;>exact⟨_,_,rfl⟩
     obtain⟨xv,cv,rfl⟩:=hv0
     have hp5:=hp2;have uh:=hq2;obtain⟨pc,pz,ES,pb⟩:=hp2.rules
     obtain⟨qc,qz,bS,qb⟩:=hq2.rules
     go_wp2_with (go_at_call 48;with_reducible refine(iX _).mono ?_;rintro e w3 ⟨rfl,rfl⟩)
     obtain⟨W4,oW⟩:∃X,X=Ck.blk (Ck.blk w2 (w.heap.size+1) #[.int .i64 0] 24) w.heap.size #[.string ⟨#[]⟩] 9:=⟨_,rfl⟩
     have hF:Fr [] w W4:=by rw[oW];exact((hFB _ hf2).blk (.inr (by omega)) _ _).blk (.inr (Nat.le_refl _)) _ _
     have U4:au W4 w.heap.size #[.string ⟨#[]⟩] 9:=by rw[oW];exact au.blk (by rw[aB];exact hp5.lt)
     have U5:au W4 (w.heap.size+1) #[.int .i64 0] 24:=by rw[oW];exact au.aL (au.blk uh.lt) (by omega)
     rw[←oW];clear oW;obtain⟨uc,uz,uset,ub⟩:=U4.rules
     obtain⟨vc,vz,RB,vb⟩:=U5.rules
     refine leaves_cons (f:=46) (args:=#[.pointer (some ⟨w.heap.size,0,none⟩),.pointer (some ⟨w.heap.size+1,0,none⟩)]) (by simp) (by simp[go_sem]) ?_;refine(AY w.heap.size (w.heap.size+1) W4).mono ?_
     rintro e u' w5 ⟨rfl,rfl,rfl⟩;have hout:Ending.returned (.tuple #[.string ⟨#[]⟩,.int .i64 0])=sH (print l)∧Fr [] w w5:=⟨by rw[PE.out];rfl,hF⟩
     simp[Leaves,settle,results,Tryz.results27,go_sem,uc,vc];exact hout
    | cons t toks =>
     obtain⟨g,cap,rfl⟩:=ownsRow_succ hown
     have hj:=Tryz.strings_Join g 0 cap ((t::toks).map fun x=>(⟨x.toArray⟩:ByteArray)) ⟨#[32]⟩ w2 (by
      intro j x hx;simp only[List.getElem?_map,Option.map_eq_some_iff]at hx;obtain⟨y,hy,rfl⟩:=hx
      have:=hown.cells (g:=g) rfl j (.string ⟨y.toArray⟩) (by unfold cK;rw[List.getElem?_map,hy];rfl)
      rw[add0]at this
      rw[Nat.zero_add];exact this) (hown.lt g rfl).2 (by have:=GJ (t::toks);have:=hroom.out;unfold wV at this;simp at *;omega)
      (by rcases hown.2 with⟨e,_⟩|⟨g',cap',cur,e,_,_,hle,_⟩;cases e;injection e with _ _ e3;subst e3;simpa using hle)
      (by
       rw[List.map_map];have e1:((fun(x:ByteArray)=>x.data.toList)∘fun(x:Bytes)=>(⟨x.toArray⟩:ByteArray))=id:=by funext x;simp
       rw[e1,List.map_id];have:=xK (t::toks);rw[show(⟨#[32]⟩:ByteArray).data.toList=[32]from rfl,AX];have:=hroom.out;unfold wV at this;omega)
     have e1:((fun(x:ByteArray)=>x.data.toList)∘fun(x:Bytes)=>(⟨x.toArray⟩:ByteArray))=id:=by funext x;simp
     rw[List.map_map,e1,List.map_id,show(⟨#[32]⟩:ByteArray).data.toList=[32]from rfl,AX,List.length_map,List.length_cons]at hj
     have Wq:Hid (print l=some (nE (t::toks)++[10])):=PE.out;clear PE;have PE:=Wq;have abt:∀w3,Below w2.heap.size w2 w3→au w3 w.heap.size #[.string ⟨#[]⟩] 9:=fun w3 h=>(h.block _ hp2.lt).trans hp2
     have abu:∀w3,Below w2.heap.size w2 w3→au w3 (w.heap.size+1) #[.int .i64 0] 24:=fun w3 h=>(h.block _ hq2.lt).trans hq2
     have HJ:Hid ((nE (t::toks)).length+1≤9223372036854775807):=by show _≤_;have:=xK (t::toks);have:=hroom.out;unfold wV at this;omega
     clear e1 Wq hroom
     go_wp2_with (first|(go_at_call 48;with_reducible refine(iX _).mono ?_;rintro e w3 ⟨rfl,rfl⟩)|(go_at_call 49;refine hj.mono ?_;rintro e w3 ⟨rfl,hb3⟩;have hp5:=abt _ hb3;have uh:=abu _ hb3;obtain⟨pc,pz,ES,pb⟩:=hp5.rules;obtain⟨qc,qz,bS,qb⟩:=uh.rules))
     ·exfalso;have h1:9223372036854775807<(nE (t::toks)).length+1:=by assumption
      have:=HJ.out
      omega
     rw[D8];obtain⟨W4,oW⟩:∃X,X=Ck.blk (Ck.blk w3 (w.heap.size+1) #[.int .i64 0] 24) w.heap.size #[.string ⟨(nE (t::toks)++[10]).toArray⟩] 9:=⟨_,rfl⟩
     have hF:Fr [] w W4:=by rw[oW];exact(((hFB _ hf2).trans (Fr.of_below hb3)).blk (.inr (by omega)) _ _).blk (.inr (Nat.le_refl _)) _ _
     have U4:au W4 w.heap.size #[.string ⟨(nE (t::toks)++[10]).toArray⟩] 9:=by rw[oW];exact au.blk (by rw[aB];exact hp5.lt)
     have U5:au W4 (w.heap.size+1) #[.int .i64 0] 24:=by rw[oW];exact au.aL (au.blk uh.lt) (by omega)
     rw[←oW];clear oW;obtain⟨uc,uz,uset,ub⟩:=U4.rules
     obtain⟨vc,vz,RB,vb⟩:=U5.rules
     refine leaves_cons (f:=46) (args:=#[.pointer (some ⟨w.heap.size,0,none⟩),.pointer (some ⟨w.heap.size+1,0,none⟩)]) (by simp) (by simp[go_sem]) ?_;refine(AY w.heap.size (w.heap.size+1) W4).mono ?_
     rintro e u' w5 ⟨rfl,rfl,rfl⟩;have hout:Ending.returned (.tuple #[.string ⟨(nE (t::toks)++[10]).toArray⟩,.int .i64 0])=sH (print l)∧Fr [] w w5:=⟨by rw[PE.out];rfl,hF⟩
     simp[Leaves,settle,results,Tryz.results27,go_sem,uc,vc];exact hout
end Go.Proofs.YtoomapkcoibmhaaGreatDoor
end
