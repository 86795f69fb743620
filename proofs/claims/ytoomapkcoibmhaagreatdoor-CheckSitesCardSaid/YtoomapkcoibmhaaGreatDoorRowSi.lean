/- CheckSites holds of the program: for whatever arguments the law returns true; what the row lists of the library's variables is tied to the program's text. -/
import Derived.ChangeMaps5
import Derived.Test.YtoomapkcoibmhaaGreatDoorCards
import Derived.Test.YtoomapkcoibmhaaGreatDoorTie
import Derived.Test.YtoomapkcoibmhaaGreatDoorSi1
set_option maxRecDepth 100000
set_option maxHeartbeats 12800000
set_option linter.all false
section
open Go Go.Proofs Go.ChangeShapes Go.WideShapes Go.ChangeAt Go.RowKit
namespace Go.Proofs.YtoomapkcoibmhaaGreatDoor
theorem ac9 (s:ByteArray):(⟨s.data.toList.toArray⟩:ByteArray)=s:=by cases s;simp
theorem ada (os:Os) (started:os.Started) (H:Type) (enc:TypeId × Value→H) :
  ReturnsInHanded {} Tryz.checked os 6 .any (fun w args=>(Rows.checkSitesSpec.pre enc Tryz.prog Tryz.f6 [] false w args∧laidMetH Tryz.prog wG w)∧sizedMet enc Tryz.prog Tryz.f6 (OpenSpec.ofChange Rows.checkSitesSpec) false w args)
   (Rows.checkSitesSpec.post enc Tryz.prog Tryz.f6 false true false false):=by
 refine Dt (C:=Tryz.checked) (X:=fun w _=>laidMetH Tryz.prog wG w) (fun _ _ _ hh h=>h.of_heap hh) own started (by kernel_rfl) Tryz.func6
  (ChangeSpec.witness_shaped (enc:=enc) (C:=Tryz.checked) (os:=os) (X:=fun w _=>laidMetH Tryz.prog wG w) false (World.doorLaid Tryz.prog 400 os) #[.string ⟨#[]⟩] 8 rfl (World.shaped_of_RefB (by kernel_rfl) (by kernel_rfl)) (by kernel_rfl) (by kernel_rfl) (by kernel_rfl) (QN os _)) ?_
 intro W base args ds gs before hsh hval0 hW hL;have hval:∀(j:Nat) t v,Tryz.f6.params[j]? = some t→args[j]? = some v→Value.okWide Tryz.prog W .any base t v:=hval0;have hW':=hW;obtain⟨p,q,hA0,hV,rfl,hfz,hnd⟩:=hW
 have hA:DataW.TrodAll enc Tryz.prog W 0 (fun _=>true) true Tryz.f6.params.toList args.toList ds p:=hA0;rw[Tryz.params6]at hA hval
 obtain⟨v0,vs0,d0,ds0,p0,q0,hargs,rfl,rfl,h0,r0⟩:=trodAll_cons hA
 obtain⟨rfl,rfl,rfl⟩:=trodAll_nil r0
 obtain rfl:args=#[v0]:=by cases args;simp_all
 obtain⟨rfl,rfl⟩:=trodVars_none hV
 obtain⟨a0,rfl,rfl,rfl,w0⟩:=Go.ChangeMaps.open_string Tryz.underlying9 (hval 0 9 v0 rfl rfl) h0
 clear hA0 hval0;simp only[List.append_nil]at hW';have hany:=afa a0.data.toList W (Sw hsh hL);simp only[ac9]at hany;refine hany.mono fun e W' ⟨he,hg⟩=>?_
 subst he;exact⟨_,rfl,Sy hW' (fun _ _ _=>(trodAll_cons_mk (shut_bool Tryz.underlying4 _) trodAll_mk0)) (fun sp=>(trodAll_cons_mk (Go.ChangeMaps.shut_string Tryz.underlying9 w0) trodAll_mk0)) (fun _=>rfl) hg (ok_one (by kernel_rfl) rfl (okWide_bool_mk Tryz.underlying4 _))⟩
theorem afz:(Rows.checkSitesRow.inPlace==Tryz.prog.inPlace 6)=true:=by kernel_rfl
theorem afA:(Rows.checkSitesRow.unfollowed==Tryz.prog.unfollowed 6)=true:=by kernel_rfl
theorem afB:(Rows.checkSitesRow.recurses==Tryz.prog.recurses 6)=true:=by kernel_rfl
theorem afC:(Rows.checkSitesRow.named==Tryz.prog.varsNamed 6)=true:=by kernel_rfl
theorem adb:joinedFacts Tryz.prog 6 Tryz.f6 Rows.checkSitesSpec Rows.checkSitesRow=true:=by
 unfold joinedFacts;rw[afz,afA,afB,afC];kernel_rfl
theorem ad8:Tryz.f6.isWrapper Tryz.prog Rows.checkSitesRow.wrapper Rows.checkSitesRow.mainSum:=by
 unfold Func.isWrapper;first|(rw[if_pos (by decide +kernel)];kernel_rfl)|(rw[if_neg (by decide +kernel)];exact⟨rfl,rfl⟩)
theorem ad9:Rows.CheckSitesSaid :=
 OpenClaim.holds_of_wide 6 Tryz.f6 rfl rfl rfl rfl rfl rfl rfl ⟨rfl,rfl,rfl,rfl,rfl⟩ rfl rfl rfl rfl rfl (by kernel_rfl) Tryz.func6 adb
  (of_decide_eq_true (by kernel_rfl)) ad8
  (fun os started H enc _=>ada os started H enc)
theorem afD:Tryz.pinned.checked.prog.mainIs=some (true,Rows.checkSitesCard.stood.harness.2.toList):=by kernel_rfl
theorem afE:Tryz.prog.funcNamed "casket/casketlaw13.CheckSites" = some 6:=by kernel_rfl
theorem afF:false=Rows.checkSitesRow.goesBy Tryz.prog:=by kernel_rfl
theorem afG:Rows.checkSitesRow.wfByText (OpenSpec.ofChange Rows.checkSitesSpec)=true:=by kernel_rfl
theorem afH:true=Tryz.prog.looks []∧∀(j:Nat) (t:TypeId),Tryz.f6.params[j]? = some t→Tryz.prog.wantsStandIn t=false :=
 ⟨QO,fun j t ht=>by
  rw[Tryz.params6]at ht
  have hm:t∈[9]:=by simpa using Array.mem_of_getElem? ht
  have hm2:t∈[3,9]:=by
   simp only[List.mem_cons,List.not_mem_nil,or_false]at hm;rw[hm];simp
  simpa using List.all_eq_true.1 SA t hm2⟩
theorem sites_card:Rows.CheckSitesCardSaid :=
 Claim7.holds_tied_plain_at .later [] [.data,.data,.data,.sentinel,.sentinel] true _ true
  ad9 (fun _ h=>by cases h) afG (fun _ h=>by cases h) checkSites_row_tie rfl ⟨rfl,rfl⟩ afD rfl
  (fun f fn hf hfn=>by
   obtain rfl:f=6:=Option.some.inj (afE.symm.trans hf) |>.symm;obtain rfl:fn=Tryz.f6:=(Option.some.inj (Tryz.func6.symm.trans hfn)).symm
   exact afH)
  afF
#print axioms sites_card
end Go.Proofs.YtoomapkcoibmhaaGreatDoor
end
