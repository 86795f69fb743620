/- CheckBounds holds of the program: for whatever arguments the law returns true; what the row lists of the library's variables is tied to the program's text. -/
import Derived.Test.YtoomapkcoibmhaaGreatDoorCards
import Derived.Test.YtoomapkcoibmhaaGreatDoorTie
import Derived.Test.YtoomapkcoibmhaaGreatDoorBd7
set_option maxRecDepth 100000
set_option maxHeartbeats 12800000
set_option linter.all false
section
open Go Go.Proofs Go.ChangeShapes Go.WideShapes Go.ChangeAt Go.RowKit
namespace Go.Proofs.YtoomapkcoibmhaaGreatDoor
theorem acd (os:Os) (started:os.Started) (H:Type) (enc:TypeId × Value→H) :
  ReturnsInHanded {} Tryz.checked os 3 .any (fun w args=>(Rows.checkBoundsSpec.pre enc Tryz.prog Tryz.f3 [] false w args∧laidMetH Tryz.prog wG w)∧sizedMet enc Tryz.prog Tryz.f3 (OpenSpec.ofChange Rows.checkBoundsSpec) false w args)
   (Rows.checkBoundsSpec.post enc Tryz.prog Tryz.f3 false true false false):=by
 refine Dt (C:=Tryz.checked) (X:=fun w _=>laidMetH Tryz.prog wG w) (fun _ _ _ hh h=>h.of_heap hh) own started (by kernel_rfl) Tryz.func3
  (ChangeSpec.witness_shaped (enc:=enc) (C:=Tryz.checked) (os:=os) (X:=fun w _=>laidMetH Tryz.prog wG w) false (World.doorLaid Tryz.prog 400 os) #[.int .i64 0] 8 rfl (World.shaped_of_RefB (by kernel_rfl) (by kernel_rfl)) (by kernel_rfl) (by kernel_rfl) (by kernel_rfl) (QN os _)) ?_
 intro W base args ds gs before hsh hval0 hW hL;have hval:∀(j:Nat) t v,Tryz.f3.params[j]? = some t→args[j]? = some v→Value.okWide Tryz.prog W .any base t v:=hval0;have hW':=hW;obtain⟨p,q,hA0,hV,rfl,hfz,hnd⟩:=hW
 have hA:DataW.TrodAll enc Tryz.prog W 0 (fun _=>true) true Tryz.f3.params.toList args.toList ds p:=hA0;rw[Tryz.params3]at hA hval
 obtain⟨v0,vs0,d0,ds0,p0,q0,hargs,rfl,rfl,h0,r0⟩:=trodAll_cons hA
 obtain⟨rfl,rfl,rfl⟩:=trodAll_nil r0
 obtain rfl:args=#[v0]:=by cases args;simp_all
 obtain⟨rfl,rfl⟩:=trodVars_none hV
 obtain⟨a0,rfl,rfl,rfl,w0⟩:=open_int Tryz.underlying3 (hval 0 3 v0 rfl rfl) h0
 clear hA0 hval0;simp only[List.append_nil]at hW';have hany:=adR a0 W (Sw hsh hL);refine hany.mono fun e W' ⟨he,hg⟩=>?_
 subst he;exact⟨_,rfl,Sy hW' (fun _ _ _=>(trodAll_cons_mk (shut_bool Tryz.underlying4 _) trodAll_mk0)) (fun sp=>(trodAll_cons_mk (shut_int Tryz.underlying3 w0) trodAll_mk0)) (fun _=>rfl) hg (ok_one (by kernel_rfl) rfl (okWide_bool_mk Tryz.underlying4 _))⟩
theorem aeQ:(Rows.checkBoundsRow.inPlace==Tryz.prog.inPlace 3)=true:=by kernel_rfl
theorem aeR:(Rows.checkBoundsRow.unfollowed==Tryz.prog.unfollowed 3)=true:=by kernel_rfl
theorem aeS:(Rows.checkBoundsRow.recurses==Tryz.prog.recurses 3)=true:=by kernel_rfl
theorem aeT:(Rows.checkBoundsRow.named==Tryz.prog.varsNamed 3)=true:=by kernel_rfl
theorem ace:joinedFacts Tryz.prog 3 Tryz.f3 Rows.checkBoundsSpec Rows.checkBoundsRow=true:=by
 unfold joinedFacts;rw[aeQ,aeR,aeS,aeT];kernel_rfl
theorem adG:Tryz.f3.isWrapper Tryz.prog Rows.checkBoundsRow.wrapper Rows.checkBoundsRow.mainSum:=by
 unfold Func.isWrapper;first|(rw[if_pos (by decide +kernel)];kernel_rfl)|(rw[if_neg (by decide +kernel)];exact⟨rfl,rfl⟩)
theorem adH:Rows.CheckBoundsSaid :=
 OpenClaim.holds_of_wide 3 Tryz.f3 rfl rfl rfl rfl rfl rfl rfl ⟨rfl,rfl,rfl,rfl,rfl⟩ rfl rfl rfl rfl rfl (by kernel_rfl) Tryz.func3 ace
  (of_decide_eq_true (by kernel_rfl)) adG
  (fun os started H enc _=>acd os started H enc)
theorem aeW:Tryz.pinned.checked.prog.mainIs=some (true,Rows.checkBoundsCard.stood.harness.2.toList):=by kernel_rfl
theorem aeX:Tryz.prog.funcNamed "casket/casketlaw13.CheckBounds" = some 3:=by kernel_rfl
theorem aeY:false=Rows.checkBoundsRow.goesBy Tryz.prog:=by kernel_rfl
theorem aeZ:Rows.checkBoundsRow.wfByText (OpenSpec.ofChange Rows.checkBoundsSpec)=true:=by kernel_rfl
theorem ae0:true=Tryz.prog.looks []∧∀(j:Nat) (t:TypeId),Tryz.f3.params[j]? = some t→Tryz.prog.wantsStandIn t=false :=
 ⟨QO,fun j t ht=>by
  rw[Tryz.params3]at ht
  have hm:t∈[3]:=by simpa using Array.mem_of_getElem? ht
  have hm2:t∈[3,9]:=by
   simp only[List.mem_cons,List.not_mem_nil,or_false]at hm;rw[hm];simp
  simpa using List.all_eq_true.1 SA t hm2⟩
theorem bounds_card:Rows.CheckBoundsCardSaid :=
 Claim7.holds_tied_plain_at .later [] [.data,.data,.data,.sentinel,.sentinel] true _ true
  adH (fun _ h=>by cases h) aeZ (fun _ h=>by cases h) checkBounds_row_tie rfl ⟨rfl,rfl⟩ aeW rfl
  (fun f fn hf hfn=>by
   obtain rfl:f=3:=Option.some.inj (aeX.symm.trans hf) |>.symm;obtain rfl:fn=Tryz.f3:=(Option.some.inj (Tryz.func3.symm.trans hfn)).symm
   exact ae0)
  aeY
#print axioms bounds_card
end Go.Proofs.YtoomapkcoibmhaaGreatDoor
end
