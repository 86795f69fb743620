/- CheckScopes holds of the program: for whatever two numbers the law returns true; what the row lists of the library's variables is tied to the program's text. -/
import Derived.Test.YtoomapkcoibmhaaGreatDoorCards
import Derived.Test.YtoomapkcoibmhaaGreatDoorTie
import Derived.Test.YtoomapkcoibmhaaGreatDoorS6
set_option maxRecDepth 100000
set_option maxHeartbeats 12800000
set_option linter.all false
section
open Go Go.Proofs Go.ChangeShapes Go.WideShapes Go.ChangeAt Go.RowKit
namespace Go.Proofs.YtoomapkcoibmhaaGreatDoor
theorem Dw (os:Os) (started:os.Started) (H:Type) (enc:TypeId × Value→H) :
  ReturnsInHanded {} Tryz.checked os 5 .any (fun w args=>(Rows.checkScopesSpec.pre enc Tryz.prog Tryz.f5 [] false w args∧laidMetH Tryz.prog wG w)∧sizedMet enc Tryz.prog Tryz.f5 (OpenSpec.ofChange Rows.checkScopesSpec) false w args)
   (Rows.checkScopesSpec.post enc Tryz.prog Tryz.f5 false true false false):=by
 refine Dt (C:=Tryz.checked) (X:=fun w _=>laidMetH Tryz.prog wG w) (fun _ _ _ hh h=>h.of_heap hh) own started (by kernel_rfl) Tryz.func5
  (ChangeSpec.witness_shaped (enc:=enc) (C:=Tryz.checked) (os:=os) (X:=fun w _=>laidMetH Tryz.prog wG w) false (World.doorLaid Tryz.prog 400 os) #[.int .i64 0,.int .i64 0] 8 rfl (World.shaped_of_RefB (by kernel_rfl) (by kernel_rfl)) (by kernel_rfl) (by kernel_rfl) (by kernel_rfl) (QN os _)) ?_
 intro W base args ds gs before hsh hval0 hW hL;have hval:∀(j:Nat) t v,Tryz.f5.params[j]? = some t→args[j]? = some v→Value.okWide Tryz.prog W .any base t v:=hval0;have hW':=hW;obtain⟨p,q,hA0,hV,rfl,hfz,hnd⟩:=hW
 have hA:DataW.TrodAll enc Tryz.prog W 0 (fun _=>true) true Tryz.f5.params.toList args.toList ds p:=hA0;rw[Tryz.params5]at hA hval
 obtain⟨v0,vs0,d0,ds0,p0,q0,hargs,rfl,rfl,h0,r0⟩:=trodAll_cons hA
 obtain⟨v1,vs1,d1,ds1,p1,q1,rfl,rfl,rfl,h1,r1⟩:=trodAll_cons r0
 obtain⟨rfl,rfl,rfl⟩:=trodAll_nil r1
 obtain rfl:args=#[v0,v1]:=by cases args;simp_all
 obtain⟨rfl,rfl⟩:=trodVars_none hV
 obtain⟨a0,rfl,rfl,rfl,w0⟩:=open_int Tryz.underlying3 (hval 0 3 v0 rfl rfl) h0
 obtain⟨a1,rfl,rfl,rfl,w1⟩:=open_int Tryz.underlying3 (hval 1 3 v1 rfl rfl) h1
 clear hA0 hval0;simp only[List.append_nil]at hW';refine(K8 a0 a1 W (Sw hsh hL)).mono fun e W' ⟨he,hg⟩=>?_
 subst he;exact⟨_,rfl,Sy hW' (fun _ _ _=>(trodAll_cons_mk (shut_bool Tryz.underlying4 _) trodAll_mk0)) (fun sp=>(trodAll_cons_mk (shut_int Tryz.underlying3 w0) (trodAll_cons_mk (shut_int Tryz.underlying3 w1) trodAll_mk0))) (fun _=>rfl) hg (ok_one (by kernel_rfl) rfl (okWide_bool_mk Tryz.underlying4 _))⟩
theorem Ob:(Rows.checkScopesRow.inPlace==Tryz.prog.inPlace 5)=true:=by kernel_rfl
theorem Oc:(Rows.checkScopesRow.unfollowed==Tryz.prog.unfollowed 5)=true:=by kernel_rfl
theorem Od:(Rows.checkScopesRow.recurses==Tryz.prog.recurses 5)=true:=by kernel_rfl
theorem Oe:(Rows.checkScopesRow.named==Tryz.prog.varsNamed 5)=true:=by kernel_rfl
theorem Dx:joinedFacts Tryz.prog 5 Tryz.f5 Rows.checkScopesSpec Rows.checkScopesRow=true:=by
 unfold joinedFacts;rw[Ob,Oc,Od,Oe];kernel_rfl
theorem Jb:Tryz.f5.isWrapper Tryz.prog Rows.checkScopesRow.wrapper Rows.checkScopesRow.mainSum:=by
 unfold Func.isWrapper;first|(rw[if_pos (by decide +kernel)];kernel_rfl)|(rw[if_neg (by decide +kernel)];exact⟨rfl,rfl⟩)
theorem Jc:Rows.CheckScopesSaid :=
 OpenClaim.holds_of_wide 5 Tryz.f5 rfl rfl rfl rfl rfl rfl rfl ⟨rfl,rfl,rfl,rfl,rfl⟩ rfl rfl rfl rfl rfl (by kernel_rfl) Tryz.func5 Dx
  (of_decide_eq_true (by kernel_rfl)) Jb
  (fun os started H enc _=>Dw os started H enc)
theorem Og:Tryz.pinned.checked.prog.mainIs=some (true,Rows.checkScopesCard.stood.harness.2.toList):=by kernel_rfl
theorem Oh:Tryz.prog.funcNamed "casket/casketlaw13.CheckScopes" = some 5:=by kernel_rfl
theorem Oi:false=Rows.checkScopesRow.goesBy Tryz.prog:=by kernel_rfl
theorem Oj:Rows.checkScopesRow.wfByText (OpenSpec.ofChange Rows.checkScopesSpec)=true:=by kernel_rfl
theorem Ol:true=Tryz.prog.looks []∧∀(j:Nat) (t:TypeId),Tryz.f5.params[j]? = some t→Tryz.prog.wantsStandIn t=false :=
 ⟨QO,fun j t ht=>by
  rw[Tryz.params5]at ht
  have hm:t∈[3,3]:=by simpa using Array.mem_of_getElem? ht
  have hm2:t∈[3,9]:=by
   simp only[List.mem_cons,List.not_mem_nil,or_false,or_self]at hm;rw[hm];exact List.mem_cons_self
  simpa using List.all_eq_true.1 SA t hm2⟩
theorem scopes_card:Rows.CheckScopesCardSaid :=
 Claim7.holds_tied_plain_at .later [] [.data,.data,.data,.sentinel,.sentinel] true _ true
  Jc (fun _ h=>by cases h) Oj (fun _ h=>by cases h) checkScopes_row_tie rfl ⟨rfl,rfl⟩ Og rfl
  (fun f fn hf hfn=>by
   obtain rfl:f=5:=Option.some.inj (Oh.symm.trans hf) |>.symm;obtain rfl:fn=Tryz.f5:=(Option.some.inj (Tryz.func5.symm.trans hfn)).symm
   exact Ol)
  Oi
#print axioms scopes_card
end Go.Proofs.YtoomapkcoibmhaaGreatDoor
end
