/- CheckBehind holds of the program: for whatever arguments the law returns true; what the row lists of the library's variables is tied to the program's text. -/
import Derived.ChangeMaps5
import Derived.Test.YtoomapkcoibmhaaGreatDoorCards
import Derived.Test.YtoomapkcoibmhaaGreatDoorTie
import Derived.Test.YtoomapkcoibmhaaGreatDoorBe2
set_option maxRecDepth 100000
set_option maxHeartbeats 12800000
set_option linter.all false
section
open Go Go.Proofs Go.ChangeShapes Go.WideShapes Go.ChangeAt Go.RowKit
namespace Go.Proofs.YtoomapkcoibmhaaGreatDoor
theorem ac9 (s:ByteArray):(⟨s.data.toList.toArray⟩:ByteArray)=s:=by cases s;simp
theorem acf (os:Os) (started:os.Started) (H:Type) (enc:TypeId × Value→H) :
  ReturnsInHanded {} Tryz.checked os 4 .any (fun w args=>(Rows.checkBehindSpec.pre enc Tryz.prog Tryz.f4 [] false w args∧laidMetH Tryz.prog wG w)∧sizedMet enc Tryz.prog Tryz.f4 (OpenSpec.ofChange Rows.checkBehindSpec) false w args)
   (Rows.checkBehindSpec.post enc Tryz.prog Tryz.f4 false true false false):=by
 refine Dt (C:=Tryz.checked) (X:=fun w _=>laidMetH Tryz.prog wG w) (fun _ _ _ hh h=>h.of_heap hh) own started (by kernel_rfl) Tryz.func4
  (ChangeSpec.witness_shaped (enc:=enc) (C:=Tryz.checked) (os:=os) (X:=fun w _=>laidMetH Tryz.prog wG w) false (World.doorLaid Tryz.prog 400 os) #[.string ⟨#[]⟩,.int .i64 0] 8 rfl (World.shaped_of_RefB (by kernel_rfl) (by kernel_rfl)) (by kernel_rfl) (by kernel_rfl) (by kernel_rfl) (QN os _)) ?_
 intro W base args ds gs before hsh hval0 hW hL;have hval:∀(j:Nat) t v,Tryz.f4.params[j]? = some t→args[j]? = some v→Value.okWide Tryz.prog W .any base t v:=hval0;have hW':=hW;obtain⟨p,q,hA0,hV,rfl,hfz,hnd⟩:=hW
 have hA:DataW.TrodAll enc Tryz.prog W 0 (fun _=>true) true Tryz.f4.params.toList args.toList ds p:=hA0;rw[Tryz.params4]at hA hval
 obtain⟨v0,vs0,d0,ds0,p0,q0,hargs,rfl,rfl,h0,r0⟩:=trodAll_cons hA
 obtain⟨v1,vs1,d1,ds1,p1,q1,rfl,rfl,rfl,h1,r1⟩:=trodAll_cons r0
 obtain⟨rfl,rfl,rfl⟩:=trodAll_nil r1
 obtain rfl:args=#[v0,v1]:=by cases args;simp_all
 obtain⟨rfl,rfl⟩:=trodVars_none hV
 obtain⟨a0,rfl,rfl,rfl,w0⟩:=Go.ChangeMaps.open_string Tryz.underlying9 (hval 0 9 v0 rfl rfl) h0
 obtain⟨a1,rfl,rfl,rfl,w1⟩:=open_int Tryz.underlying3 (hval 1 3 v1 rfl rfl) h1
 clear hA0 hval0;simp only[List.append_nil]at hW';have hany:=ad1 a0.data.toList a1 W (Sw hsh hL);simp only[ac9]at hany;refine hany.mono fun e W' ⟨he,hg⟩=>?_
 subst he;exact⟨_,rfl,Sy hW' (fun _ _ _=>(trodAll_cons_mk (shut_bool Tryz.underlying4 _) trodAll_mk0)) (fun sp=>(trodAll_cons_mk (Go.ChangeMaps.shut_string Tryz.underlying9 w0) (trodAll_cons_mk (shut_int Tryz.underlying3 w1) trodAll_mk0))) (fun _=>rfl) hg (ok_one (by kernel_rfl) rfl (okWide_bool_mk Tryz.underlying4 _))⟩
theorem ae1:(Rows.checkBehindRow.inPlace==Tryz.prog.inPlace 4)=true:=by kernel_rfl
theorem ae2:(Rows.checkBehindRow.unfollowed==Tryz.prog.unfollowed 4)=true:=by kernel_rfl
theorem ae3:(Rows.checkBehindRow.recurses==Tryz.prog.recurses 4)=true:=by kernel_rfl
theorem ae4:(Rows.checkBehindRow.named==Tryz.prog.varsNamed 4)=true:=by kernel_rfl
theorem aco:joinedFacts Tryz.prog 4 Tryz.f4 Rows.checkBehindSpec Rows.checkBehindRow=true:=by
 unfold joinedFacts;rw[ae1,ae2,ae3,ae4];kernel_rfl
theorem adI:Tryz.f4.isWrapper Tryz.prog Rows.checkBehindRow.wrapper Rows.checkBehindRow.mainSum:=by
 unfold Func.isWrapper;first|(rw[if_pos (by decide +kernel)];kernel_rfl)|(rw[if_neg (by decide +kernel)];exact⟨rfl,rfl⟩)
theorem adJ:Rows.CheckBehindSaid :=
 OpenClaim.holds_of_wide 4 Tryz.f4 rfl rfl rfl rfl rfl rfl rfl ⟨rfl,rfl,rfl,rfl,rfl⟩ rfl rfl rfl rfl rfl (by kernel_rfl) Tryz.func4 aco
  (of_decide_eq_true (by kernel_rfl)) adI
  (fun os started H enc _=>acf os started H enc)
theorem ae5:Tryz.pinned.checked.prog.mainIs=some (true,Rows.checkBehindCard.stood.harness.2.toList):=by kernel_rfl
theorem ae6:Tryz.prog.funcNamed "casket/casketlaw13.CheckBehind" = some 4:=by kernel_rfl
theorem ae7:false=Rows.checkBehindRow.goesBy Tryz.prog:=by kernel_rfl
theorem ae8:Rows.checkBehindRow.wfByText (OpenSpec.ofChange Rows.checkBehindSpec)=true:=by kernel_rfl
theorem ae9:true=Tryz.prog.looks []∧∀(j:Nat) (t:TypeId),Tryz.f4.params[j]? = some t→Tryz.prog.wantsStandIn t=false :=
 ⟨QO,fun j t ht=>by
  rw[Tryz.params4]at ht
  have hm:t∈[9,3]:=by simpa using Array.mem_of_getElem? ht
  have hm2:t∈[3,9]:=by
   simp only[List.mem_cons,List.not_mem_nil,or_false]at hm;rcases hm with rfl|rfl<;>simp
  simpa using List.all_eq_true.1 SA t hm2⟩
theorem behind_card:Rows.CheckBehindCardSaid :=
 Claim7.holds_tied_plain_at .later [] [.data,.data,.data,.sentinel,.sentinel] true _ true
  adJ (fun _ h=>by cases h) ae8 (fun _ h=>by cases h) checkBehind_row_tie rfl ⟨rfl,rfl⟩ ae5 rfl
  (fun f fn hf hfn=>by
   obtain rfl:f=4:=Option.some.inj (ae6.symm.trans hf) |>.symm;obtain rfl:fn=Tryz.f4:=(Option.some.inj (Tryz.func4.symm.trans hfn)).symm
   exact ae9)
  ae7
#print axioms behind_card
end Go.Proofs.YtoomapkcoibmhaaGreatDoor
end
