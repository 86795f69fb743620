/- A part of the proof. -/
import Derived.Test.YtoomapkcoibmhaaGreatDoorQ8
set_option maxRecDepth 100000
set_option maxHeartbeats 12800000
set_option linter.all false
section
open Go Go.Proofs Go.RowKit Ck
namespace Go.Proofs.YtoomapkcoibmhaaGreatDoor
theorem parseFloat_any (s:Bytes) (w:World) (hV:Vars w) (hs:s.length≤140737488351232) :
  Calls Tryz.prog 143 #[.string ⟨s.toArray⟩] w (fun e w'=>e=.returned (pfV (parseFloat s))∧Fr [] w w'):=by
 by_cases h64:64<s.length
 ·have HF:Hid (pfV (parseFloat s)=.tuple #[.int .u64 0,.int .i64 2]):=by show _=_;unfold parseFloat;rw[if_pos h64];rfl
  have h64':(64:Int)<s.length:=by omega
  go_enter Tryz.func143,Tryz.ntmps143
  go_wp2
  exact bodyPost_ret (v:=pfV (parseFloat s)) (by rw[HF.out];simp[results,Tryz.results143,go_sem]) rfl ⟨rfl,Fr.refl _ _⟩
 have h64':¬(64:Int)<s.length:=by omega
 cases h1:(s==[110,97,110])
 case true =>
  obtain rfl:=beq_iff_eq.1 h1
  have HF:Hid (pfV (parseFloat [110,97,110])=.tuple #[.int .u64 9221120237041090560,.int .i64 0]):=by show _=_;rfl
  go_enter Tryz.func143,Tryz.ntmps143
  go_wp2
  exact bodyPost_ret (v:=pfV (parseFloat [110,97,110])) (by rw[HF.out];simp[results,Tryz.results143,go_sem]) rfl ⟨rfl,Fr.refl _ _⟩
 cases h2:(s==[105,110,102])
 case true =>
  obtain rfl:=beq_iff_eq.1 h2
  have HF:Hid (pfV (parseFloat [105,110,102])=.tuple #[.int .u64 9218868437227405312,.int .i64 0]):=by show _=_;rfl
  go_enter Tryz.func143,Tryz.ntmps143
  go_wp2
  exact bodyPost_ret (v:=pfV (parseFloat [105,110,102])) (by rw[HF.out];simp[results,Tryz.results143,go_sem]) rfl ⟨rfl,Fr.refl _ _⟩
 cases h3:(s==[45,105,110,102])
 case true =>
  obtain rfl:=beq_iff_eq.1 h3
  have HF:Hid (pfV (parseFloat [45,105,110,102])=.tuple #[.int .u64 18442240474082181120,.int .i64 0]):=by show _=_;rfl
  go_enter Tryz.func143,Tryz.ntmps143
  go_wp2
  exact bodyPost_ret (v:=pfV (parseFloat [45,105,110,102])) (by rw[HF.out];simp[results,Tryz.results143,go_sem]) rfl ⟨rfl,Fr.refl _ _⟩
 have hgen:=pf_sgn s (by omega) h1 h2 h3
 have cpa:∀W,Calls Tryz.prog 180 #[.string ⟨s.toArray⟩,.string ⟨#[45]⟩] W (fun e w'=>e=.returned (.tuple #[.string ⟨(minus s).toArray⟩,.bool ([45].isPrefixOf s)])∧W=w'):=fun W=>cutPrefix_any s [45] W
 have hml:(minus s).length≤s.length:=by unfold minus;split<;>simp
 generalize [45].isPrefixOf s=neg at cpa hgen
 generalize minus s=M at cpa hgen hml
 have cpb:∀W,Calls Tryz.prog 180 #[.string ⟨M.toArray⟩,.string ⟨#[48,120]⟩] W (fun e w'=>e=.returned (.tuple #[.string ⟨(past0x M).toArray⟩,.bool ([48,120].isPrefixOf M)])∧W=w'):=fun W=>cutPrefix_any M [48,120] W
 have hpl:(past0x M).length≤M.length:=by unfold past0x;split<;>simp
 generalize [48,120].isPrefixOf M=ok0 at cpb hgen
 generalize past0x M=T at cpb hgen hpl
 have cut1:=fun W=>cut_any T W (by omega)
 have hcl:=cut_len T
 have hcs:=cut_small T
 have hgp:=genHex_plain ok0 T
 have hgq:=genHex_point ok0 T
 generalize (cut T).1=L at cut1 hcl hcs hgp hgq
 generalize (cut T).2=S3 at cut1 hcl hgp hgq
 have hL64:L.length≤64:=by omega
 have hS3:S3.length≤64:=by omega
 obtain⟨R3,hR3⟩:∃R:Bytes,Hid (R=if [46].isPrefixOf S3 then S3.drop 1 else S3):=⟨_,rfl⟩
 obtain⟨isb,hisb⟩:∃b:Bool,Hid (b=[46].isPrefixOf S3):=⟨_,rfl⟩
 have cpc:∀W,Calls Tryz.prog 180 #[.string ⟨S3.toArray⟩,.string ⟨#[46]⟩] W (fun e w'=>e=.returned (.tuple #[.string ⟨R3.toArray⟩,.bool isb])∧W=w'):=fun W=>by rw[hR3.out,hisb.out];exact cutPrefix_any S3 [46] W
 go_enter Tryz.func143,Tryz.ntmps143
 go_upto_region 12 with(first|(go_at_call 180;with_reducible refine(cpa _).mono ?_;rintro e w1 ⟨rfl,rfl⟩)|(go_at_call 180;with_reducible refine(cpb _).mono ?_;rintro e w1 ⟨rfl,rfl⟩)|(go_at_call 181;with_reducible refine(cut1 _).mono ?_;rintro e w1 ⟨v1,rfl,hown1,hf1⟩;obtain⟨x1,c1,rfl⟩:=ownsRow_slice hown1))
 go_cut [5] (fun ok W=>ok=.bool (ok0 && !L.isEmpty)∧w1=W)
 case first =>
  clear hgp hgq hcs hgen hown1
  cases ok0
  ·go_wp2
   go_meet
   exact⟨rfl,rfl⟩
  ·cases L with
   | nil =>
    go_wp2
    go_meet
    exact⟨rfl,rfl⟩
   | cons l0 lr =>
    have hpos:(0:Int)<((l0::lr).length:Nat):=by simp only[List.length_cons];omega
    go_wp2
    go_meet
    exact⟨rfl,rfl⟩
 case rest =>
 obtain⟨rfl,rfl⟩:=hcut
 obtain⟨ok1,hok1⟩:∃b,b=(ok0 && !L.isEmpty):=⟨_,rfl⟩
 rw[←hok1]at hgp hgq ⊢
 clear hok1 cpa cpb cut1
 have HP:=Lib.hid hgp;have HQ:=Lib.hid hgq;have HGEN:=Lib.hid hgen
 clear hgp hgq hgen
 go_upto_if 54 with(first|(go_at_call 180;with_reducible refine(cpc _).mono ?_;rintro e w2 ⟨rfl,rfl⟩))
 go_cut [0,5,6,7] (fun vs vok vl vpt W=>Hid (PFMid s neg w vs vok vl vpt W))
 case first =>
  cases isb
  ·go_wp2
   go_meet
   case rel =>
    exact⟨S3,ok1,L,x1,c1,0,rfl,rfl,rfl,rfl,by show _=_;rw[HGEN.out,HP.out hisb.out.symm],hS3,by omega,by omega,hcs,hf1,ownsRow_uat hown1⟩
  ·have hRl:R3.length≤S3.length:=by
    rw[hR3.out];split
    ·simp
    ·exact Nat.le_refl _
   have cutR:=fun W=>cut_any R3 W (by omega)
   have hRc:=cut_len R3
   have hRs:=cut_small R3
   have hS46:S3=46::R3:=by
    obtain⟨t,ht⟩:=List.isPrefixOf_iff_prefix.1 hisb.out.symm
    rw[hR3.out,←hisb.out,←ht];rfl
   have HQ':=Lib.hid (HQ.out R3 hS46)
   clear hS46 HQ HP
   generalize (cut R3).1=K at cutR hRc hRs HQ'
   generalize (cut R3).2=S4 at cutR hRc HQ'
   go_upto_region 18 with(first|(go_at_call 181;with_reducible refine(cutR _).mono ?_;rintro e w3 ⟨v3,rfl,hown3,hf3⟩;obtain⟨x3,c3,rfl⟩:=ownsRow_slice hown3))
   go_cut [5] (fun ok W=>ok=.bool (ok1 && !K.isEmpty)∧w3=W)
   case first =>
    clear hRs hown3 HQ'
    cases ok1
    ·go_wp2
     go_meet
     exact⟨rfl,rfl⟩
    ·cases K with
     | nil =>
      go_wp2
      go_meet
      exact⟨rfl,rfl⟩
     | cons l0 lr =>
      have hpos:(0:Int)<((l0::lr).length:Nat):=by simp only[List.length_cons];omega
      go_wp2
      go_meet
      exact⟨rfl,rfl⟩
   case rest =>
   obtain⟨rfl,rfl⟩:=hcut
   obtain⟨ok2,hok2⟩:∃b,Hid (b=(ok1 && !K.isEmpty)):=⟨_,rfl⟩
   rw[←hok2.out]at HQ' ⊢
   obtain⟨i0,hi,hz0,hz1,hz2⟩:=info_parts Tryz.infoU64
   have hR3:=Reads.of_own hown3
   have hownL:=ownsRow_fr' hown1 hf3
   have hb1:=hf1.size
   have hb3:=hf3.size
   go_wp2_with (at_builtin;refine wpList_append_any _ rfl _ _ 160 rfl w.heap.size 38 i0 (.int .u64 0) 1 8 Tryz.underlying160 hi hz0 hz1 hz2 rfl (by decide) (.slice x1 L.length c1) L.length (uvals L) rfl hownL w3.heap.size x3 K.length c3 (uvals K) rfl hR3 (by simp[uvals,Value.oneCell']) (by simp[maxLen];omega) (by omega) (by omega) ?_;intro v4 w4 hown4 hg4 hat4;obtain⟨x4,c4,rfl⟩:=ownsRow_slice hown4)
   go_meet
   case rel =>
    have hf4:Fr [] w w4:=((hf1.trans hf3).grown hg4 (fun k e=>.inr (hownL.lt k e).1))
    have hown5:w4.ownsRow w.heap.size 38 1 (.slice x4 (L++K).length c4) (L++K).length (uvals (L++K)):=by
     have e1:(L++K).length=L.length+K.length:=by simp
     have e2:uvals (L++K)=uvals L++uvals K:=by simp[uvals]
     rw[e1,e2];exact hown4
    exact⟨S4,ok2,L++K,x4,c4,K.length,rfl,rfl,by simp,rfl,by show _=_;rw[HGEN.out,HQ'.out],by omega,by omega,by simp;omega,(fun x hx=>by rcases List.mem_append.1 hx with h|h;exact hcs x h;exact hRs x h),hf4,ownsRow_uat hown5⟩
 case rest =>
 obtain⟨S3,ok2,LL,x2,c2,p,rfl,rfl,rfl,rfl,HR,hS,hpp,hll,h16,hfw,HU⟩:=hcut.out
 clear hcut
 clear HP HQ HGEN cpc hisb hR3 hcl hcs hL64 hS3 hown1 hf1
 obtain⟨q0,b0,cpd0⟩:∃(q:Bytes) (b:Bool),∀W,Calls Tryz.prog 180 #[.string ⟨S3.toArray⟩,.string ⟨#[112]⟩] W (fun e w'=>e=.returned (.tuple #[.string ⟨q.toArray⟩,.bool b])∧W=w'):=⟨_,_,fun W=>cutPrefix_any S3 [112] W⟩
 cases ok2
 ·go_wp2_with (first|(go_at_call 180;with_reducible refine(cpd0 _).mono ?_;rintro e w4 ⟨rfl,rfl⟩))
  refine bodyPost_ret (v:=.tuple #[.int .u64 0,.int .i64 20]) (by simp[results,Tryz.results143,go_sem]) rfl ?_
  rw[HR.out,parseTail_bad _ _ _ _ (.inl rfl),sgn_err]
  exact⟨rfl,hfw⟩
 have cpd:=fun W=>cutPrefix_any S3 [112] W
 cases h112:[112].isPrefixOf S3
 ·rw[h112]at cpd
  simp only[Bool.false_eq_true,if_false]at cpd
  go_wp2_with (first|(go_at_call 180;with_reducible refine(cpd _).mono ?_;rintro e w4 ⟨rfl,rfl⟩))
  refine bodyPost_ret (v:=.tuple #[.int .u64 0,.int .i64 20]) (by simp[results,Tryz.results143,go_sem]) rfl ?_
  rw[HR.out,parseTail_bad _ _ _ _ (.inr (.inl h112)),sgn_err]
  exact⟨rfl,hfw⟩
 ·obtain⟨T5,hT5⟩:=List.isPrefixOf_iff_prefix.1 h112
  have hT5':S3=112::T5:=hT5.symm
  have h5l:T5.length≤64:=by rw[hT5']at hS;simp at hS;omega
  rw[hT5']at cpd HR h112 ⊢
  have cpd':∀W,Calls Tryz.prog 180 #[.string ⟨(112::T5).toArray⟩,.string ⟨#[112]⟩] W (fun e w'=>e=.returned (.tuple #[.string ⟨T5.toArray⟩,.bool true])∧W=w'):=fun W=>by have:=cpd W;rw[h112]at this;exact this
  clear cpd hT5 hT5' h112
  by_cases hl2:(T5.length:Int)<2
  ·have hbad:(112::T5:Bytes).length<3:=by simp;omega
   go_wp2_with (first|(go_at_call 180;with_reducible refine(cpd' _).mono ?_;rintro e w4 ⟨rfl,rfl⟩))
   refine bodyPost_ret (v:=.tuple #[.int .u64 0,.int .i64 20]) (by simp[results,Tryz.results143,go_sem]) rfl ?_
   rw[HR.out,parseTail_bad _ _ _ _ (.inr (.inr (.inl hbad))),sgn_err]
   exact⟨rfl,hfw⟩
  by_cases hl6:(6:Int)<T5.length
  ·have hbad:7<(112::T5:Bytes).length:=by simp;omega
   go_wp2_with (first|(go_at_call 180;with_reducible refine(cpd' _).mono ?_;rintro e w4 ⟨rfl,rfl⟩))
   refine bodyPost_ret (v:=.tuple #[.int .u64 0,.int .i64 20]) (by simp[results,Tryz.results143,go_sem]) rfl ?_
   rw[HR.out,parseTail_bad _ _ _ _ (.inr (.inr (.inr hbad))),sgn_err]
   exact⟨rfl,hfw⟩
  obtain⟨sg,d,rfl⟩:∃sg d,T5=sg::d:=by
   cases T5 with
   | nil=>simp at hl2
   | cons a b=>exact⟨a,b,rfl⟩
  have hdl:d.length≤5:=by simp at hl6;omega
  have k43:((sg.toNat:Int)==43)=(sg==43):=u8b' sg 43 43 rfl
  have k45:((sg.toNat:Int)==45)=(sg==45):=u8b' sg 45 45 rfl
  have dg:=fun W=>digits_any d W (by omega)
  simp only[List.length_cons]at hl2 hl6 h5l
  cases e43:(sg==43)
  ·cases e45:(sg==45)
   ·rw[e43]at k43
    have p43:=k43
    simp only[beq_eq_false_iff_ne,ne_eq,beq_iff_eq]at p43
    rw[e45]at k45
    have p45:=k45
    simp only[beq_eq_false_iff_ne,ne_eq,beq_iff_eq]at p45
    go_wp2_with (first|(go_at_call 180;with_reducible refine(cpd' _).mono ?_;rintro e w4 ⟨rfl,rfl⟩))
    refine bodyPost_ret (v:=.tuple #[.int .u64 0,.int .i64 20]) (by simp[results,Tryz.results143,go_sem]) rfl ?_
    rw[HR.out,parseTail_sign _ _ _ _ e43 e45,sgn_err]
    exact⟨rfl,hfw⟩
   ·rw[e43]at k43
    have p43:=k43
    simp only[beq_eq_false_iff_ne,ne_eq,beq_iff_eq]at p43
    rw[e45]at k45
    have p45:=k45
    simp only[beq_eq_false_iff_ne,ne_eq,beq_iff_eq]at p45
    have hsg:sg=43∨sg=45:=.inr (beq_iff_eq.1 e45)
    cases hd:digits d
    ·rw[hd]at dg
     go_wp2_with (first|(go_at_call 180;with_reducible refine(cpd' _).mono ?_;rintro e w4 ⟨rfl,rfl⟩)|(go_at_call 182;with_reducible refine(dg _).mono ?_;rintro e w5 ⟨rfl,rfl⟩))
     refine bodyPost_ret (v:=.tuple #[.int .u64 0,.int .i64 20]) (by simp[results,Tryz.results143,go_sem]) rfl ?_
     rw[HR.out,parseTail_digits _ _ _ _ hd,sgn_err]
     exact⟨rfl,hfw⟩
    ·rw[hd]at dg
     have hes:=expV_small sg d hd hdl
     have hat:=atoi_exp sg d hsg hd
     have HG:=Lib.hid (parseTail_good LL p sg d hd hdl hsg)
     have at1:=fun W=>Tryz.strconv_Atoi ⟨(sg::d).toArray⟩ (expV sg d) (by simp[ByteArray.size];omega) hat W
     generalize expV sg d=ex at at1 hes HG
     clear hat
     have ex1:=fun(v:Value) (W:World) (hV:Vars W) (hu:UAt W v LL)=>exact_any LL (ex-4*(p:Int)) v W hV hu (by omega) h16 (by omega)
     have exl:=exact_lt LL (ex-4*(p:Int))
     cases hex:exact LL (ex-4*(p:Int))
     ·rw[hex]at ex1 HG
      unfold exV at ex1
      go_wp2_with (first|(go_at_call 180;with_reducible refine(cpd' _).mono ?_;rintro e w4 ⟨rfl,rfl⟩)|(go_at_call 182;with_reducible refine(dg _).mono ?_;rintro e w5 ⟨rfl,rfl⟩)|(go_at_call 183;refine(at1 _).mono ?_;rintro e w6 ⟨rfl,tt,hw6⟩;have hf6:=Fr.of_bytes (.inr ⟨tt,hw6⟩);clear hw6)|(go_at_call 184;refine(ex1 _ _ (hV.fr (hfw.trans hf6) (by simp)) (UAt.fr HU.out hf6)).mono ?_;rintro e w7 ⟨rfl,hf7⟩))
      refine bodyPost_ret (v:=.tuple #[.int .u64 0,.int .i64 21]) (by simp[results,Tryz.results143,go_sem]) rfl ?_
      rw[HR.out,HG.out,sgn_err]
      exact⟨rfl,(hfw.trans hf6).trans hf7⟩
     ·rename_i b
      rw[hex]at ex1 HG
      have hb:=exl b hex
      have HS:=Lib.hid (bits_sign b hb)
      unfold exV at ex1
      clear exl hex
      cases neg
      ·go_wp2_with (first|(go_at_call 180;with_reducible refine(cpd' _).mono ?_;rintro e w4 ⟨rfl,rfl⟩)|(go_at_call 182;with_reducible refine(dg _).mono ?_;rintro e w5 ⟨rfl,rfl⟩)|(go_at_call 183;refine(at1 _).mono ?_;rintro e w6 ⟨rfl,tt,hw6⟩;have hf6:=Fr.of_bytes (.inr ⟨tt,hw6⟩);clear hw6)|(go_at_call 184;refine(ex1 _ _ (hV.fr (hfw.trans hf6) (by simp)) (UAt.fr HU.out hf6)).mono ?_;rintro e w7 ⟨rfl,hf7⟩))
       refine bodyPost_ret (v:=.tuple #[.int .u64 b,.int .i64 0]) (by simp[results,Tryz.results143,go_sem]) rfl ?_
       rw[HR.out,HG.out]
       exact⟨rfl,(hfw.trans hf6).trans hf7⟩
      ·go_wp2_with (first|(go_at_call 180;with_reducible refine(cpd' _).mono ?_;rintro e w4 ⟨rfl,rfl⟩)|(go_at_call 182;with_reducible refine(dg _).mono ?_;rintro e w5 ⟨rfl,rfl⟩)|(go_at_call 183;refine(at1 _).mono ?_;rintro e w6 ⟨rfl,tt,hw6⟩;have hf6:=Fr.of_bytes (.inr ⟨tt,hw6⟩);clear hw6)|(go_at_call 184;refine(ex1 _ _ (hV.fr (hfw.trans hf6) (by simp)) (UAt.fr HU.out hf6)).mono ?_;rintro e w7 ⟨rfl,hf7⟩))
       refine bodyPost_ret (v:=.tuple #[.int .u64 (bits BinOp.or IntKind.u64 b 9223372036854775808),.int .i64 0]) (by simp[results,Tryz.results143,go_sem]) rfl ?_
       rw[HR.out,HG.out,HS.out]
       exact⟨rfl,(hfw.trans hf6).trans hf7⟩
  ·rw[e43]at k43
   have p43:=k43
   simp only[beq_eq_false_iff_ne,ne_eq,beq_iff_eq]at p43
   have hsg:sg=43∨sg=45:=.inl (beq_iff_eq.1 e43)
   cases hd:digits d
   ·rw[hd]at dg
    go_wp2_with (first|(go_at_call 180;with_reducible refine(cpd' _).mono ?_;rintro e w4 ⟨rfl,rfl⟩)|(go_at_call 182;with_reducible refine(dg _).mono ?_;rintro e w5 ⟨rfl,rfl⟩))
    refine bodyPost_ret (v:=.tuple #[.int .u64 0,.int .i64 20]) (by simp[results,Tryz.results143,go_sem]) rfl ?_
    rw[HR.out,parseTail_digits _ _ _ _ hd,sgn_err]
    exact⟨rfl,hfw⟩
   ·rw[hd]at dg
    have hes:=expV_small sg d hd hdl
    have hat:=atoi_exp sg d hsg hd
    have HG:=Lib.hid (parseTail_good LL p sg d hd hdl hsg)
    have at1:=fun W=>Tryz.strconv_Atoi ⟨(sg::d).toArray⟩ (expV sg d) (by simp[ByteArray.size];omega) hat W
    generalize expV sg d=ex at at1 hes HG
    clear hat
    have ex1:=fun(v:Value) (W:World) (hV:Vars W) (hu:UAt W v LL)=>exact_any LL (ex-4*(p:Int)) v W hV hu (by omega) h16 (by omega)
    have exl:=exact_lt LL (ex-4*(p:Int))
    cases hex:exact LL (ex-4*(p:Int))
    ·rw[hex]at ex1 HG
     unfold exV at ex1
     go_wp2_with (first|(go_at_call 180;with_reducible refine(cpd' _).mono ?_;rintro e w4 ⟨rfl,rfl⟩)|(go_at_call 182;with_reducible refine(dg _).mono ?_;rintro e w5 ⟨rfl,rfl⟩)|(go_at_call 183;refine(at1 _).mono ?_;rintro e w6 ⟨rfl,tt,hw6⟩;have hf6:=Fr.of_bytes (.inr ⟨tt,hw6⟩);clear hw6)|(go_at_call 184;refine(ex1 _ _ (hV.fr (hfw.trans hf6) (by simp)) (UAt.fr HU.out hf6)).mono ?_;rintro e w7 ⟨rfl,hf7⟩))
     refine bodyPost_ret (v:=.tuple #[.int .u64 0,.int .i64 21]) (by simp[results,Tryz.results143,go_sem]) rfl ?_
     rw[HR.out,HG.out,sgn_err]
     exact⟨rfl,(hfw.trans hf6).trans hf7⟩
    ·rename_i b
     rw[hex]at ex1 HG
     have hb:=exl b hex
     have HS:=Lib.hid (bits_sign b hb)
     unfold exV at ex1
     clear exl hex
     cases neg
     ·go_wp2_with (first|(go_at_call 180;with_reducible refine(cpd' _).mono ?_;rintro e w4 ⟨rfl,rfl⟩)|(go_at_call 182;with_reducible refine(dg _).mono ?_;rintro e w5 ⟨rfl,rfl⟩)|(go_at_call 183;refine(at1 _).mono ?_;rintro e w6 ⟨rfl,tt,hw6⟩;have hf6:=Fr.of_bytes (.inr ⟨tt,hw6⟩);clear hw6)|(go_at_call 184;refine(ex1 _ _ (hV.fr (hfw.trans hf6) (by simp)) (UAt.fr HU.out hf6)).mono ?_;rintro e w7 ⟨rfl,hf7⟩))
      refine bodyPost_ret (v:=.tuple #[.int .u64 b,.int .i64 0]) (by simp[results,Tryz.results143,go_sem]) rfl ?_
      rw[HR.out,HG.out]
      exact⟨rfl,(hfw.trans hf6).trans hf7⟩
     ·go_wp2_with (first|(go_at_call 180;with_reducible refine(cpd' _).mono ?_;rintro e w4 ⟨rfl,rfl⟩)|(go_at_call 182;with_reducible refine(dg _).mono ?_;rintro e w5 ⟨rfl,rfl⟩)|(go_at_call 183;refine(at1 _).mono ?_;rintro e w6 ⟨rfl,tt,hw6⟩;have hf6:=Fr.of_bytes (.inr ⟨tt,hw6⟩);clear hw6)|(go_at_call 184;refine(ex1 _ _ (hV.fr (hfw.trans hf6) (by simp)) (UAt.fr HU.out hf6)).mono ?_;rintro e w7 ⟨rfl,hf7⟩))
      refine bodyPost_ret (v:=.tuple #[.int .u64 (bits BinOp.or IntKind.u64 b 9223372036854775808),.int .i64 0]) (by simp[results,Tryz.results143,go_sem]) rfl ?_
      rw[HR.out,HG.out,HS.out]
      exact⟨rfl,(hfw.trans hf6).trans hf7⟩end Go.Proofs.YtoomapkcoibmhaaGreatDoor
end
