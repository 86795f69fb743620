/- A part of the proof. -/
import Derived.Lib.AppendStr
import Derived.ProofKit
import Derived.LaidMore
import Derived.OpenShut
import Derived.Stop.Joined
import Derived.Stop.LaidErr
import Derived.MakeChecks
import Derived.SevenTiedAt
import Derived.Test.YtoomapkcoibmhaaGreatDoorRows
import Derived.Test.YtoomapkcoibmhaaGreatDoorQ45
set_option maxRecDepth 100000
set_option maxHeartbeats 12800000
set_option linter.all false
section
open Go Go.Proofs Go.RowKit Go.Shelf Go.Lib Ck
namespace Go.Proofs.YtoomapkcoibmhaaGreatDoor
attribute [local go_sem] Oper.semAt_some
theorem K3 (b:Bytes):strCells ⟨b.toArray⟩=dJ b:=by
 simp[strCells,dJ]
theorem QJ (b:Bytes) (n:Nat) (hb:b.length≤100) (hn:n≤1100) (w:World) :
  Calls Tryz.prog 10 #[.string ⟨b.toArray⟩,.int .i64 n] w fun e w'=>e=.returned (.string ⟨(xZ n b).toArray⟩)∧Fr [] w w':=by
 obtain⟨i0,hi,hz0,hz1,hz2⟩:=info_parts Tryz.infoU8
 go_enter Tryz.func10,Tryz.ntmps10;go_wp2;have h0:(w.alloc (.cells #[] 5)).ownsRow w.heap.size 5 1 (.slice (some ⟨w.heap.size,0,none⟩) 0 0) 0 (dJ []):=⟨rfl,.inr ⟨w.heap.size,0,#[],rfl,Nat.le_refl _,World.alloc_heap_new w _,Nat.le_refl _,by simp[maxLen],rfl,rfl⟩⟩
 go_loopw [5,6] (fun v i wr=>∃k:Nat,i=.int .i64 k∧k≤n∧Hid (wr.ownsRow w.heap.size 5 1 v (xZ k b).length (dJ (xZ k b))∧Fr [] w wr)) (fun _ i _=>n-(intOf i).toNat)
 case atStart=>exact⟨0,rfl,Nat.zero_le _,⟨h0,(Fr.refl _ _).alloc _⟩⟩
 case round =>
  clear h0;obtain⟨k,rfl,hk,hq⟩:=hrel
  have HO:=Lib.hid hq.out.1;have HF:=Lib.hid hq.out.2;clear hq;by_cases hlt:k<n
  ·have hl:=IQ k b;have hm:k*b.length≤1100*100:=Nat.mul_le_mul (by omega) hb;have HL:=Lib.hid hl
   go_wp2_with (at_builtin;go_loud (refine wpList_append_own_string _ rfl _ _ 42 9 rfl w.heap.size 5 i0 Tryz.underlying42 Tryz.underlying9 hi hz0 hz1 hz2 u5 _ _ rfl HO.out ⟨b.toArray⟩ rfl ?c1 ?c2 ?c3 ?_))
   case c1=>have:=HL.out;simp[maxLen,ByteArray.size];omega
   case c2=>have:=HL.out;simp[ByteArray.size];omega
   case c3=>exact HF.out.size
   intro v' w1 hown' hgrow _;have HG:=Lib.hid hgrow;have HOW:=Lib.hid hown';clear hgrow hown';go_wp2;refine⟨⟨k+1,by go_num,by omega,⟨?_,HF.out.grown HG.out (fun j e=>.inr (Qs HO.out e))⟩⟩,by simp[intOf];omega⟩;have h9:=HOW.out;rw[K3]at h9
   rw[x9,List.length_append]
   try rw[HL.out]
   simpa[dJ,ByteArray.size]using h9
  ·obtain rfl:k=n:=by omega
   have OC:(convert 42 9 u5).run Tryz.prog wr=.ok (.string ⟨(xZ k b).toArray⟩) wr:=qR Tryz.underlying42 Tryz.underlying5 Tryz.underlying9 HO.out;go_wp2;go_ret;exact⟨rfl,HF.out⟩
end Go.Proofs.YtoomapkcoibmhaaGreatDoor
end
section
open Go Go.Proofs Go.RowKit Go.Shelf Go.Lib Go.Sort Ck
namespace Ck
def QK:Bytes:=[102,110,32,102,40,97,44,32,98,41,32,123,32,114,101,116,117,114,110,32,97,32,43,32,98,32,42,32,102,40,97,44,32,49,41,59,32,125]
def Xl:Bytes:=[102,110,32,102,40,41,32,123,32,120,32,61,32,49,59,32,125]
def aT:Tree:=(yg QK).getD default
theorem Sq:yg QK=some aT:=by
 have h:(yg QK).isSome=true:=by kernel_rfl
 unfold aT;cases hh:yg QK with
 | none=>rw[hh]at h;cases h
 | some T=>rfl
theorem IU:bC aT false=⟨0,0⟩:=by kernel_rfl
theorem UH:aT.row.length=13:=by kernel_rfl
theorem Mg:aT.size=13:=by kernel_rfl
theorem Sr:regs aT [102]=6:=by kernel_rfl
theorem Xm:aT.row.all (fun m=>(Lit.int .i64 m.at').wf)=true:=by kernel_rfl
theorem Sv:((aT.row.filter meets).map (·.at'))=[22,26]:=by kernel_rfl
theorem QL:vv aT=[22,26]:=by
 unfold vv sites;rw[IU,Sv,List.mergeSort_of_pairwise (by decide)];rfl
theorem NP:kU Xl=([],⟨63,9⟩):=by kernel_rfl
end Ck
namespace Go.Proofs.YtoomapkcoibmhaaGreatDoor
attribute [local go_sem] Oper.semAt_some
theorem Eu (w:World) (hV:Vars w) :
  Calls Tryz.prog 11 #[] w fun e w'=>e=.returned (.bool true)∧Fr [] w w':=by
 obtain⟨hm1,hG,hk⟩:=K4 Sq IU
 have hl1:=sU QK w hV (by decide);rw[hm1]at hl1
 have hl2:=fun X hV=>sU Xl X hV (by decide)
 rw[NP]at hl2
 have hln:=UH;have hs:=fun g c X hV hR hc=>NH UD aT hG hk (by rw[Mg];omega) g c aT.row rfl X hV hR hc (fun m hm _=>List.all_eq_true.1 Xm m hm)
 rw[QL]at hs
 have hr:=fun g c X hV hR hc=>Qy UD aT.n aT.ks (by have:=hG;generalize aT=t at *;cases t;exact this) hk (by have:=Mg;generalize aT=t at *;cases t;simp only[Tree.n,Tree.ks];omega) g c [102] aT.row (by generalize aT=t;cases t;rfl) X hV hR hc
 have haT:Tree.mk aT.n aT.ks=aT:=by generalize aT=t;cases t;rfl
 rw[haT,Sr]at hr
 have hne:aT.row≠[]:=fun e=>by rw[e]at hln;cases hln
 obtain⟨R,hR⟩:∃x,aT.row=x:=⟨_,rfl⟩
 rw[hR]at hl1 hs hr hln hne
 clear hm1 hG hk haT hR;simp only at hl1 hl2;go_enter Tryz.func11,Tryz.ntmps11;rw[hln]at hs hr
 go_wp2_with (first
  | (go_at_call 8;refine hl1.mono ?_;rintro e w1 ⟨v1,rfl,hrow,hf1⟩;obtain⟨g,c,rfl,hbg,NA,hcap⟩:=vg hrow hne;rw[hln]at hcap;have hb1:=au.new w1 #[.int .i64 0,.int .i64 0] 26;clear hl1 hrow)
  | (go_at_call 8;refine(hl2 _ (hV.fr (hf1.alloc _) (by simp))).mono ?_;rintro e w2 ⟨v2,rfl,hrow2,hf2⟩;have hb2:=au.new w2 #[.int .i64 63,.int .i64 9] 26;clear hl2 hrow2)
  | (go_at_call 13;refine(hs g c _ (hV.fr (((hf1.alloc _).trans hf2).alloc _) (by simp)) (NA.fr ((((Fr.refl [] _).alloc _).trans hf2).alloc _) (by simp)) hcap).mono ?_;rintro e w3 ⟨v3,rfl,hf3,hrow3⟩;obtain⟨a3,c3,rfl,h31,h32,Ad⟩:=Qr (K:=[22,26]) hrow3;obtain⟨gs,rfl,hgs,hs0⟩:=Ad 0 22 rfl;obtain⟨gs',hge,_,hs1⟩:=Ad 1 26 rfl;cases hge;have acp:=hb1.fr ((hf2.alloc _).trans hf3) (by simp);have acr:=hb2.fr hf3 (by simp);obtain⟨r1,r2,r3,r4⟩:=acp.rules;obtain⟨q1,q2,q3,q4⟩:=acr.rules;clear hs hrow3 Ad)
  | (go_at_call 9;refine(hr g c _ (hV.fr ((((hf1.alloc _).trans hf2).alloc _).trans hf3) (by simp)) (NA.fr (((((Fr.refl [] _).alloc _).trans hf2).alloc _).trans hf3) (by simp)) hcap).mono ?_;rintro e w4 ⟨rfl,eY⟩;have aeU:=(eY.nQ (p:=⟨gs,0,none⟩) hgs (by simp)).trans hs0;have aeV:=(eY.nQ (p:=⟨gs,1,none⟩) hgs (by simp)).trans hs1;clear hr))
 go_ret;exact⟨rfl,((((hf1.alloc _).trans hf2).alloc _).trans hf3).trans eY⟩
end Go.Proofs.YtoomapkcoibmhaaGreatDoor
end
section
open Go Go.Proofs Go.ChangeShapes Go.WideShapes Go.ChangeAt Go.RowKit
namespace Go.Proofs.YtoomapkcoibmhaaGreatDoor
theorem own:ownKnob Tryz.prog.godebug=none:=by kernel_rfl
theorem star : "*" ++ "errors.errorString" = "*errors.errorString":=by decide
theorem QM (u:TypeId) (h:Tryz.prog.typeName? 3 u=some "*errors.errorString"):u=329 :=
 typeName_ptr_named (nm:="errors.errorString") (by rw[star];kernel_rfl) (by kernel_rfl) (by decide) u (by rw[star];exact h)
theorem Dr {W:World} (h:W.ShapedOpen Tryz.prog):∀k,k<Tryz.prog.globals.size→∃o:Obj,o.isCells=true∧W.heap[k]? = some o:=by
 intro k hk
 have hrow:((begin Tryz.prog (fun _ _=>0) default).world.heap[k]?.bind Obj.row?).isSome=true:=by
  have hall:((List.range Tryz.prog.globals.size).all fun k=>((begin Tryz.prog (fun _ _=>0) default).world.heap[k]?.bind Obj.row?).isSome)=true:=by kernel_rfl
  exact List.all_eq_true.1 hall k (List.mem_range.2 hk)
 obtain⟨⟨zero,t⟩,hz⟩:=Option.isSome_iff_exists.1 hrow
 obtain⟨cs,hc,_⟩:=h.1 k zero t hk hz
 exact⟨_,rfl,hc⟩
abbrev wG:List (String × DataW Unit):=[("math/bits.deBruijn32tab",Rows.laid_math_bits_deBruijn32tab),("math/bits.deBruijn64tab",Rows.laid_math_bits_deBruijn64tab),("internal/strconv.uint64pow10",Rows.laid_internal_strconv_uint64pow10),("strconv.ErrRange",Rows.laid_strconv_ErrRange),("strconv.ErrSyntax",Rows.laid_strconv_ErrSyntax)]
theorem Sw {W:World} (hs:W.ShapedOpen Tryz.prog) (hl:laidMetH Tryz.prog wG W):Vars W:=by
 rw[MakeChecks.laidMetH_plain _ _ _ (by kernel_rfl)]at hl
 have h1:=hl.tail;have h2:=h1.tail;have h3:=h2.tail;have h4:=h3.tail;refine⟨W,⟨?_,?_,?_,?_⟩,fun k hk=>?_⟩
 ·obtain⟨a,s,hv,_⟩:=laid_sentinel (g:=4) h3 (by kernel_rfl) (by kernel_rfl) Tryz.underlying122 QM Tryz.underlying329 Tryz.underlying331 rfl rfl Tryz.underlying9 (by kernel_rfl) (by kernel_rfl)
  exact⟨_,_,hv⟩
 ·obtain⟨a,s,hv,_⟩:=laid_sentinel (g:=3) h4 (by kernel_rfl) (by kernel_rfl) Tryz.underlying122 QM Tryz.underlying329 Tryz.underlying331 rfl rfl Tryz.underlying9 (by kernel_rfl) (by kernel_rfl)
  exact⟨_,_,hv⟩
 ·exact Lib.tabIs_of_head (g:=5) (by kernel_rfl) (by kernel_rfl) Tryz.underlying340 Tryz.underlying38 (by kernel_rfl) (by kernel_rfl) h2
 ·exact Lib.tabIs_of_head (zs:=[0,1,56,2,57,49,28,3,61,58,42,50,38,29,17,4,62,47,59,36,45,43,51,22,53,39,33,30,24,18,12,5,63,55,48,27,60,41,37,16,46,35,44,21,52,32,23,11,54,26,40,15,34,20,31,10,25,14,19,9,13,8,7,6]) (g:=1) (by kernel_rfl) (by kernel_rfl) Tryz.underlying291 Tryz.underlying5 (by kernel_rfl) (by kernel_rfl) h1
 ·obtain⟨o,h5,h6⟩:=Dr hs k hk
  exact⟨o,h5,h6,h6⟩
theorem Fr.kept {W W':World} (h:Ck.Fr [] W W') (may:MemPlace→Prop):W.keptBut W' may:=by
 refine⟨h.os,h.output,fun i hi=>?_⟩;rw[h.block i hi List.not_mem_nil];cases hh:W.heap[i]? with
 | none=>trivial
 | some o =>
  cases o<;>first|exact⟨rfl,rfl,rfl,fun _ _=>rfl⟩|exact .inr ⟨rfl,rfl⟩|rfl
section
variable {H:Type} {enc:TypeId × Value→H}
theorem Sy {P:Program} {f:Func} {s:ChangeSpec} {apart fresh handsOn again:Bool} {W W':World} {args:Array Value} {v:Value} {ds gs:List (DataW H)}
  (hW:DataW.Whole enc P f.params.toList s.vars apart W args.toList ds gs [])
  (hres:∀(b:Nat) (sp:Nat→Bool) (hd:Bool),DataW.TrodAll enc P W' b sp hd f.resultTypes.toList (v.resultList f.resultTypes.size) (s.fn H (ds++gs)).results [])
  (hargs:∀sp:Nat→Bool,DataW.TrodAll enc P W' 0 sp true f.params.toList args.toList (s.fn H (ds++gs)).args [])
  (hvars:∀sp:Nat→Bool,DataW.TrodVars enc P W' sp s.vars (s.fn H (ds++gs)).vars [])
  (hk:Ck.Fr [] W W')
  (hok:∀(j:Nat) (t:TypeId) (r:Value),f.resultTypes[j]? = some t→(v.resultList f.resultTypes.size)[j]? = some r→Value.okWide P W' .any 0 t r) :
  s.post enc P f apart fresh handsOn again W args v W':=by
 refine⟨ds,gs,[],[],[],[],hW,hres _ _ _,hargs _,hvars _,Fr.kept hk _,fun _=>?_⟩;refine⟨hok,_,_,([]++[])++[],⟨[]++[],[],trodAll_append (hargs _) (hres _ _ _),hvars _,rfl,?_,?_⟩,?_⟩
 ·intro b off hp;cases hp
 ·intro _;exact List.nodup_nil
 ·intro p hp;cases hp
theorem Dt {a:Assume} {C:Checked} {os:Os} {f:FuncId} {fn:Func} {s:ChangeSpec} {conds:List PathCond} {apart fresh handsOn again:Bool} {X:World→Array Value→Prop}
  (hX:∀(w w':World) (args:Array Value),w.heap=w'.heap→X w args→X w' args)
  (own:ownKnob C.prog.godebug=none) (started:os.Started) (noInit:C.prog.inits.idxOf? f=none) (hfn:C.prog.funcs[f]? = some fn)
  (witness:∃(w:World) (tape:Tape) (i:Input),w.os=os∧(w.forCall tape i).Shaped C.prog∧i.vars=[]∧Input.okWide C.prog (w.forCall tape i) .any w.heap.size f i ∧
   ((s.pre enc C.prog fn conds apart (w.forCall tape i).memory i.args∧X (w.forCall tape i).memory i.args)∧sizedMet enc C.prog fn (OpenSpec.ofChange s) apart (w.forCall tape i).memory i.args)∧a.holds C.prog (lone (Frame.enter C.prog f i.args .normal) [] (w.forCall tape i)))
  (contract:∀(W:World) (base:Nat) (args:Array Value) (ds gs:List (DataW H)) (before:List MemPlace),W.ShapedOpen C.prog →
   (∀(j:Nat) t v,fn.params[j]? = some t→args[j]? = some v→Value.okWide C.prog W .any base t v) →
   DataW.Whole enc C.prog fn.params.toList s.vars apart W args.toList ds gs before→X W args →
   Calls C.prog f args W fun e W'=>∃v,e=.returned v∧s.post enc C.prog fn apart fresh handsOn again W args v W') :
  ReturnsInHanded a C os f .any (fun w args=>(s.pre enc C.prog fn conds apart w args∧X w args)∧sizedMet enc C.prog fn (OpenSpec.ofChange s) apart w args) (s.post enc C.prog fn apart fresh handsOn again):=by
 refine returnsInHanded_of_calls own started noInit witness ?_;intro w tape i _ hsh _ hok hpre _;obtain⟨_,_,_,fn',hfn',_,_,_,_,hval⟩:=hok
 obtain rfl:fn'=fn:=Option.some.inj (hfn'.symm.trans hfn);obtain⟨⟨⟨ds,gs,before,hw,_⟩,hx⟩,_⟩:=hpre
 have hw':=DataW.Whole.of_heap (w':=w.forCall tape i) (by rfl) hw;refine(contract (w.forCall tape i) w.heap.size i.args ds gs before hsh hval hw' (hX _ _ _ (by rfl) hx)).mono fun e W' ⟨v,he,hp⟩=>?_
 subst he;exact ChangeSpec.post_blind hp
end
theorem QN (os:Os) (args:Array Value):laidMetH Tryz.prog wG ((World.doorLaid Tryz.prog 400 os).forCall (fun _ _=>0) ⟨#[],args,[]⟩).memory :=
 laidMetH_of_parts3 (fuel:=8) (laidMet_of_run' 8 (by kernel_rfl) (by kernel_rfl)) (by kernel_rfl) (by kernel_rfl)
theorem QO:true=Tryz.prog.looks []:=by kernel_rfl
theorem SA:([3,9].all fun u=>!Tryz.prog.wantsStandIn u)=true:=by kernel_rfl
end Go.Proofs.YtoomapkcoibmhaaGreatDoor
end
