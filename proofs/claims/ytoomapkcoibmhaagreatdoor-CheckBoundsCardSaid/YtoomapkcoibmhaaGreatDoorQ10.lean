/- A part of the proof. -/
import Derived.Test.YtoomapkcoibmhaaGreatDoorQ9
set_option maxRecDepth 100000
set_option maxHeartbeats 12800000
set_option linter.all false
section
open Go Go.Proofs Go.RowKit Ck
namespace Go.Proofs.YtoomapkcoibmhaaGreatDoor
theorem rY (s:Bytes) (w:World) (hV:Vars w) (hs:s.length≤140737488351232) :
  Calls Tryz.prog 143 #[.string ⟨s.toArray⟩] w (fun e w'=>e=.returned (SV (bD s))∧Fr [] w w'):=by
 by_cases h64:64<s.length
 ·have HF:Hid (SV (bD s)=.tuple #[.int .u64 0,.int .i64 2]):=by show _=_;unfold bD;rw[if_pos h64];rfl
  have UW:(64:Int)<s.length:=by omega
  go_enter Tryz.func143,Tryz.ntmps143;go_wp2;exact bodyPost_ret (v:=SV (bD s)) (by rw[HF.out];simp[results,Tryz.results143,go_sem]) rfl ⟨rfl,Fr.refl _ _⟩
 have UW:¬(64:Int)<s.length:=by omega
 cases h1:(s==[110,97,110])
 case true =>
  obtain rfl:=beq_iff_eq.1 h1;have HF:Hid (SV (bD [110,97,110])=.tuple #[.int .u64 9221120237041090560,.int .i64 0]):=by show _=_;rfl
  go_enter Tryz.func143,Tryz.ntmps143;go_wp2;exact bodyPost_ret (v:=SV (bD [110,97,110])) (by rw[HF.out];simp[results,Tryz.results143,go_sem]) rfl ⟨rfl,Fr.refl _ _⟩
 cases h2:(s==[105,110,102])
 case true =>
  obtain rfl:=beq_iff_eq.1 h2;have HF:Hid (SV (bD [105,110,102])=.tuple #[.int .u64 9218868437227405312,.int .i64 0]):=by show _=_;rfl
  go_enter Tryz.func143,Tryz.ntmps143;go_wp2;exact bodyPost_ret (v:=SV (bD [105,110,102])) (by rw[HF.out];simp[results,Tryz.results143,go_sem]) rfl ⟨rfl,Fr.refl _ _⟩
 cases h3:(s==[45,105,110,102])
 case true =>
  obtain rfl:=beq_iff_eq.1 h3;have HF:Hid (SV (bD [45,105,110,102])=.tuple #[.int .u64 18442240474082181120,.int .i64 0]):=by show _=_;rfl
  go_enter Tryz.func143,Tryz.ntmps143;go_wp2;exact bodyPost_ret (v:=SV (bD [45,105,110,102])) (by rw[HF.out];simp[results,Tryz.results143,go_sem]) rfl ⟨rfl,Fr.refl _ _⟩
 have hgen:=UZ s (by omega) h1 h2 h3;have cpa:∀W,Calls Tryz.prog 180 #[.string ⟨s.toArray⟩,.string ⟨#[45]⟩] W (fun e w'=>e=.returned (.tuple #[.string ⟨(minus s).toArray⟩,.bool ([45].isPrefixOf s)])∧W=w'):=fun W=>kr s [45] W
 have hml:(minus s).length≤s.length:=by unfold minus;split<;>simp
 generalize [45].isPrefixOf s=neg at cpa hgen;generalize minus s=M at cpa hgen hml;have cpb:∀W,Calls Tryz.prog 180 #[.string ⟨M.toArray⟩,.string ⟨#[48,120]⟩] W (fun e w'=>e=.returned (.tuple #[.string ⟨(rV M).toArray⟩,.bool ([48,120].isPrefixOf M)])∧W=w'):=fun W=>kr M [48,120] W
 have hpl:(rV M).length≤M.length:=by unfold rV;split<;>simp
 generalize [48,120].isPrefixOf M=ok0 at cpb hgen;generalize rV M=T at cpb hgen hpl;have SX:=fun W=>Ml T W (by omega)
 have hcl:=Gd T;have hcs:=yj T;have Vd:=Gf ok0 T;have Ve:=Gg ok0 T;generalize (cut T).1=L at SX hcl hcs Vd Ve;generalize (cut T).2=S3 at SX hcl Vd Ve;have acP:L.length≤64:=by omega
 have Oq:S3.length≤64:=by omega
 obtain⟨R3,Vf⟩:∃R:Bytes,Hid (R=if [46].isPrefixOf S3 then S3.drop 1 else S3):=⟨_,rfl⟩
 obtain⟨isb,Ra⟩:∃b:Bool,Hid (b=[46].isPrefixOf S3):=⟨_,rfl⟩
 have cpc:∀W,Calls Tryz.prog 180 #[.string ⟨S3.toArray⟩,.string ⟨#[46]⟩] W (fun e w'=>e=.returned (.tuple #[.string ⟨R3.toArray⟩,.bool isb])∧W=w'):=fun W=>by rw[Vf.out,Ra.out];exact kr S3 [46] W
 go_enter Tryz.func143,Tryz.ntmps143
 go_upto_region 12 with(first|(go_at_call 180;with_reducible refine(cpa _).mono ?_;rintro e w1 ⟨rfl,rfl⟩)|(go_at_call 180;with_reducible refine(cpb _).mono ?_;rintro e w1 ⟨rfl,rfl⟩)|(go_at_call 181;with_reducible refine(SX _).mono ?_;rintro e w1 ⟨v1,rfl,hown1,hf1⟩;obtain⟨x1,c1,rfl⟩:=qh hown1))
 go_cut [5] (fun ok W=>ok=.bool (ok0 && !L.isEmpty)∧w1=W)
 case first =>
  clear Vd Ve hcs hgen hown1;cases ok0
  ·go_wp2
   go_meet
   exact⟨rfl,rfl⟩
  ·cases L with
   | nil =>
    go_wp2
    go_meet
    exact⟨rfl,rfl⟩
   | cons l0 lr =>
    have hpos:(0:Int)<((l0::lr).length:Nat):=by simp only[List.length_cons];omega
    go_wp2
    go_meet
    exact⟨rfl,rfl⟩
 case rest =>
 obtain⟨rfl,rfl⟩:=hcut
 obtain⟨ok1,hok1⟩:∃b,b=(ok0 && !L.isEmpty):=⟨_,rfl⟩
 rw[←hok1]at Vd Ve ⊢
 clear hok1 cpa cpb SX;have HP:=Lib.hid Vd;have HQ:=Lib.hid Ve;have U0:=Lib.hid hgen;clear Vd Ve hgen
 go_upto_if 54 with(first|(go_at_call 180;with_reducible refine(cpc _).mono ?_;rintro e w2 ⟨rfl,rfl⟩))
 go_cut [0,5,6,7] (fun vs vok vl vpt W=>Hid (Z4 s neg w vs vok vl vpt W))
 case first =>
  cases isb
  ·go_wp2
   go_meet
   case rel =>
    exact⟨S3,ok1,L,x1,c1,0,rfl,rfl,rfl,rfl,by show _=_;rw[U0.out,HP.out Ra.out.symm],Oq,by omega,by omega,hcs,hf1,yU hown1⟩
  ·have hRl:R3.length≤S3.length:=by
    rw[Vf.out];split
    ·simp
    ·exact Nat.le_refl _
   have U1:=fun W=>Ml R3 W (by omega)
   have hRc:=Gd R3;have hRs:=yj R3
   have Z5:S3=46::R3:=by
    obtain⟨t,ht⟩:=List.isPrefixOf_iff_prefix.1 Ra.out.symm
    rw[Vf.out,←Ra.out,←ht];rfl
   have Z6:=Lib.hid (HQ.out R3 Z5);clear Z5 HQ HP;generalize (cut R3).1=K at U1 hRc hRs Z6;generalize (cut R3).2=S4 at U1 hRc Z6
   go_upto_region 18 with(first|(go_at_call 181;with_reducible refine(U1 _).mono ?_;rintro e w3 ⟨v3,rfl,hown3,hf3⟩;obtain⟨x3,c3,rfl⟩:=qh hown3))
   go_cut [5] (fun ok W=>ok=.bool (ok1 && !K.isEmpty)∧w3=W)
   case first =>
    clear hRs hown3 Z6;cases ok1
    ·go_wp2
     go_meet
     exact⟨rfl,rfl⟩
    ·cases K with
     | nil =>
      go_wp2
      go_meet
      exact⟨rfl,rfl⟩
     | cons l0 lr =>
      have hpos:(0:Int)<((l0::lr).length:Nat):=by simp only[List.length_cons];omega
      go_wp2
      go_meet
      exact⟨rfl,rfl⟩
   case rest =>
   obtain⟨rfl,rfl⟩:=hcut
   obtain⟨Uf,hok2⟩:∃b,Hid (b=(ok1 && !K.isEmpty)):=⟨_,rfl⟩
   rw[←hok2.out]at Z6 ⊢
   obtain⟨i0,hi,hz0,hz1,hz2⟩:=info_parts Tryz.infoU64
   have Vf:=Reads.UR hown3;have TA:=yR hown1 hf3;have hb1:=hf1.size;have hb3:=hf3.size
   go_wp2_with (at_builtin;refine wK _ rfl _ _ 160 rfl w.heap.size 38 i0 (.int .u64 0) 1 8 Tryz.underlying160 hi hz0 hz1 hz2 rfl (by decide) (.slice x1 L.length c1) L.length (lF L) rfl TA w3.heap.size x3 K.length c3 (lF K) rfl Vf (by simp[lF,Value.oneCell']) (by simp[maxLen];omega) (by omega) (by omega) ?_;intro v4 w4 vP hg4 Vx;obtain⟨x4,c4,rfl⟩:=qh vP)
   go_meet
   case rel =>
    have eY:Fr [] w w4:=((hf1.trans hf3).grown hg4 (fun k e=>.inr (TA.lt k e).1))
    have hown5:w4.ownsRow w.heap.size 38 1 (.slice x4 (L++K).length c4) (L++K).length (lF (L++K)):=by
     have e1:(L++K).length=L.length+K.length:=by simp
     have e2:lF (L++K)=lF L++lF K:=by simp[lF]
     rw[e1,e2];exact vP
    exact⟨S4,Uf,L++K,x4,c4,K.length,rfl,rfl,by simp,rfl,by show _=_;rw[U0.out,Z6.out],by omega,by omega,by simp;omega,(fun x hx=>by rcases List.mem_append.1 hx with h|h;exact hcs x h;exact hRs x h),eY,yU hown5⟩
 case rest =>
 obtain⟨S3,Uf,LL,x2,c2,p,rfl,rfl,rfl,rfl,HR,hS,hpp,hll,h16,hfw,HU⟩:=hcut.out
 clear hcut;clear HP HQ U0 cpc Ra Vf hcl hcs acP Oq hown1 hf1;obtain⟨q0,b0,acQ⟩:∃(q:Bytes) (b:Bool),∀W,Calls Tryz.prog 180 #[.string ⟨S3.toArray⟩,.string ⟨#[112]⟩] W (fun e w'=>e=.returned (.tuple #[.string ⟨q.toArray⟩,.bool b])∧W=w'):=⟨_,_,fun W=>kr S3 [112] W⟩
 cases Uf
 ·go_wp2_with (first|(go_at_call 180;with_reducible refine(acQ _).mono ?_;rintro e w4 ⟨rfl,rfl⟩))
  refine bodyPost_ret (v:=.tuple #[.int .u64 0,.int .i64 20]) (by simp[results,Tryz.results143,go_sem]) rfl ?_;rw[HR.out,mM _ _ _ _ (.inl rfl),nU];exact⟨rfl,hfw⟩
 have Vg:=fun W=>kr S3 [112] W
 cases h112:[112].isPrefixOf S3
 ·rw[h112]at Vg
  simp only[Bool.false_eq_true,if_false]at Vg
  go_wp2_with (first|(go_at_call 180;with_reducible refine(Vg _).mono ?_;rintro e w4 ⟨rfl,rfl⟩))
  refine bodyPost_ret (v:=.tuple #[.int .u64 0,.int .i64 20]) (by simp[results,Tryz.results143,go_sem]) rfl ?_;rw[HR.out,mM _ _ _ _ (.inr (.inl h112)),nU];exact⟨rfl,hfw⟩
 ·obtain⟨T5,hT5⟩:=List.isPrefixOf_iff_prefix.1 h112
  have U2:S3=112::T5:=hT5.symm;have h5l:T5.length≤64:=by rw[U2]at hS;simp at hS;omega
  rw[U2]at Vg HR h112 ⊢
  have Cr:∀W,Calls Tryz.prog 180 #[.string ⟨(112::T5).toArray⟩,.string ⟨#[112]⟩] W (fun e w'=>e=.returned (.tuple #[.string ⟨T5.toArray⟩,.bool true])∧W=w'):=fun W=>by have:=Vg W;rw[h112]at this;exact this
  clear Vg hT5 U2 h112;by_cases hl2:(T5.length:Int)<2
  ·have hbad:(112::T5:Bytes).length<3:=by simp;omega
   go_wp2_with (first|(go_at_call 180;with_reducible refine(Cr _).mono ?_;rintro e w4 ⟨rfl,rfl⟩))
   refine bodyPost_ret (v:=.tuple #[.int .u64 0,.int .i64 20]) (by simp[results,Tryz.results143,go_sem]) rfl ?_;rw[HR.out,mM _ _ _ _ (.inr (.inr (.inl hbad))),nU];exact⟨rfl,hfw⟩
  by_cases hl6:(6:Int)<T5.length
  ·have hbad:7<(112::T5:Bytes).length:=by simp;omega
   go_wp2_with (first|(go_at_call 180;with_reducible refine(Cr _).mono ?_;rintro e w4 ⟨rfl,rfl⟩))
   refine bodyPost_ret (v:=.tuple #[.int .u64 0,.int .i64 20]) (by simp[results,Tryz.results143,go_sem]) rfl ?_;rw[HR.out,mM _ _ _ _ (.inr (.inr (.inr hbad))),nU];exact⟨rfl,hfw⟩
  obtain⟨sg,d,rfl⟩:∃sg d,T5=sg::d:=by
   cases T5 with
   | nil=>simp at hl2
   | cons a b=>exact⟨a,b,rfl⟩
  have hdl:d.length≤5:=by simp at hl6;omega
  have Vh:((sg.toNat:Int)==43)=(sg==43):=UU sg 43 43 rfl;have k45:((sg.toNat:Int)==45)=(sg==45):=UU sg 45 45 rfl;have dg:=fun W=>Cm d W (by omega)
  simp only[List.length_cons]at hl2 hl6 h5l;cases e43:(sg==43)
  ·cases e45:(sg==45)
   ·rw[e43]at Vh
    have p43:=Vh;simp only[beq_eq_false_iff_ne,ne_eq,beq_iff_eq]at p43;rw[e45]at k45
    have p45:=k45;simp only[beq_eq_false_iff_ne,ne_eq,beq_iff_eq]at p45
    go_wp2_with (first|(go_at_call 180;with_reducible refine(Cr _).mono ?_;rintro e w4 ⟨rfl,rfl⟩))
    refine bodyPost_ret (v:=.tuple #[.int .u64 0,.int .i64 20]) (by simp[results,Tryz.results143,go_sem]) rfl ?_;rw[HR.out,Cq _ _ _ _ e43 e45,nU];exact⟨rfl,hfw⟩
   ·rw[e43]at Vh
    have p43:=Vh;simp only[beq_eq_false_iff_ne,ne_eq,beq_iff_eq]at p43;rw[e45]at k45
    have p45:=k45;simp only[beq_eq_false_iff_ne,ne_eq,beq_iff_eq]at p45;have hsg:sg=43∨sg=45:=.inr (beq_iff_eq.1 e45);cases hd:digits d
    ·rw[hd]at dg
     go_wp2_with (first|(go_at_call 180;with_reducible refine(Cr _).mono ?_;rintro e w4 ⟨rfl,rfl⟩)|(go_at_call 182;with_reducible refine(dg _).mono ?_;rintro e w5 ⟨rfl,rfl⟩))
     refine bodyPost_ret (v:=.tuple #[.int .u64 0,.int .i64 20]) (by simp[results,Tryz.results143,go_sem]) rfl ?_;rw[HR.out,qJ _ _ _ _ hd,nU];exact⟨rfl,hfw⟩
    ·rw[hd]at dg
     have hes:=Co sg d hd hdl;have hat:=I9 sg d hsg hd;have HG:=Lib.hid (tu LL p sg d hd hdl hsg);have SY:=fun W=>Tryz.strconv_Atoi ⟨(sg::d).toArray⟩ (Cn sg d) (by simp[ByteArray.size];omega) hat W
     generalize Cn sg d=ex at SY hes HG;clear hat;have Lh:=fun(v:Value) (W:World) (hV:Vars W) (hu:Ji W v LL)=>EB LL (ex-4*(p:Int)) v W hV hu (by omega) h16 (by omega)
     have Z7:=I8 LL (ex-4*(p:Int));cases hex:exact LL (ex-4*(p:Int))
     ·rw[hex]at Lh HG
      unfold exV at Lh
      go_wp2_with (first|(go_at_call 180;with_reducible refine(Cr _).mono ?_;rintro e w4 ⟨rfl,rfl⟩)|(go_at_call 182;with_reducible refine(dg _).mono ?_;rintro e w5 ⟨rfl,rfl⟩)|(go_at_call 183;refine(SY _).mono ?_;rintro e w6 ⟨rfl,tt,Ja⟩;have jA:=Fr.mV (.inr ⟨tt,Ja⟩);clear Ja)|(go_at_call 184;refine(Lh _ _ (hV.fr (hfw.trans jA) (by simp)) (Ji.fr HU.out jA)).mono ?_;rintro e w7 ⟨rfl,uU⟩))
      refine bodyPost_ret (v:=.tuple #[.int .u64 0,.int .i64 21]) (by simp[results,Tryz.results143,go_sem]) rfl ?_;rw[HR.out,HG.out,nU];exact⟨rfl,(hfw.trans jA).trans uU⟩
     ·rename_i b;rw[hex]at Lh HG
      have hb:=Z7 b hex;have HS:=Lib.hid (EC b hb);unfold exV at Lh;clear Z7 hex;cases neg
      ·go_wp2_with (first|(go_at_call 180;with_reducible refine(Cr _).mono ?_;rintro e w4 ⟨rfl,rfl⟩)|(go_at_call 182;with_reducible refine(dg _).mono ?_;rintro e w5 ⟨rfl,rfl⟩)|(go_at_call 183;refine(SY _).mono ?_;rintro e w6 ⟨rfl,tt,Ja⟩;have jA:=Fr.mV (.inr ⟨tt,Ja⟩);clear Ja)|(go_at_call 184;refine(Lh _ _ (hV.fr (hfw.trans jA) (by simp)) (Ji.fr HU.out jA)).mono ?_;rintro e w7 ⟨rfl,uU⟩))
       refine bodyPost_ret (v:=.tuple #[.int .u64 b,.int .i64 0]) (by simp[results,Tryz.results143,go_sem]) rfl ?_;rw[HR.out,HG.out];exact⟨rfl,(hfw.trans jA).trans uU⟩
      ·go_wp2_with (first|(go_at_call 180;with_reducible refine(Cr _).mono ?_;rintro e w4 ⟨rfl,rfl⟩)|(go_at_call 182;with_reducible refine(dg _).mono ?_;rintro e w5 ⟨rfl,rfl⟩)|(go_at_call 183;refine(SY _).mono ?_;rintro e w6 ⟨rfl,tt,Ja⟩;have jA:=Fr.mV (.inr ⟨tt,Ja⟩);clear Ja)|(go_at_call 184;refine(Lh _ _ (hV.fr (hfw.trans jA) (by simp)) (Ji.fr HU.out jA)).mono ?_;rintro e w7 ⟨rfl,uU⟩))
       refine bodyPost_ret (v:=.tuple #[.int .u64 (bits BinOp.or IntKind.u64 b 9223372036854775808),.int .i64 0]) (by simp[results,Tryz.results143,go_sem]) rfl ?_;rw[HR.out,HG.out,HS.out];exact⟨rfl,(hfw.trans jA).trans uU⟩
  ·rw[e43]at Vh
   have p43:=Vh;simp only[beq_eq_false_iff_ne,ne_eq,beq_iff_eq]at p43;have hsg:sg=43∨sg=45:=.inl (beq_iff_eq.1 e43);cases hd:digits d
   ·rw[hd]at dg
    go_wp2_with (first|(go_at_call 180;with_reducible refine(Cr _).mono ?_;rintro e w4 ⟨rfl,rfl⟩)|(go_at_call 182;with_reducible refine(dg _).mono ?_;rintro e w5 ⟨rfl,rfl⟩))
    refine bodyPost_ret (v:=.tuple #[.int .u64 0,.int .i64 20]) (by simp[results,Tryz.results143,go_sem]) rfl ?_;rw[HR.out,qJ _ _ _ _ hd,nU];exact⟨rfl,hfw⟩
   ·rw[hd]at dg
    have hes:=Co sg d hd hdl;have hat:=I9 sg d hsg hd;have HG:=Lib.hid (tu LL p sg d hd hdl hsg);have SY:=fun W=>Tryz.strconv_Atoi ⟨(sg::d).toArray⟩ (Cn sg d) (by simp[ByteArray.size];omega) hat W
    generalize Cn sg d=ex at SY hes HG;clear hat;have Lh:=fun(v:Value) (W:World) (hV:Vars W) (hu:Ji W v LL)=>EB LL (ex-4*(p:Int)) v W hV hu (by omega) h16 (by omega)
    have Z7:=I8 LL (ex-4*(p:Int));cases hex:exact LL (ex-4*(p:Int))
    ·rw[hex]at Lh HG
     unfold exV at Lh
     go_wp2_with (first|(go_at_call 180;with_reducible refine(Cr _).mono ?_;rintro e w4 ⟨rfl,rfl⟩)|(go_at_call 182;with_reducible refine(dg _).mono ?_;rintro e w5 ⟨rfl,rfl⟩)|(go_at_call 183;refine(SY _).mono ?_;rintro e w6 ⟨rfl,tt,Ja⟩;have jA:=Fr.mV (.inr ⟨tt,Ja⟩);clear Ja)|(go_at_call 184;refine(Lh _ _ (hV.fr (hfw.trans jA) (by simp)) (Ji.fr HU.out jA)).mono ?_;rintro e w7 ⟨rfl,uU⟩))
     refine bodyPost_ret (v:=.tuple #[.int .u64 0,.int .i64 21]) (by simp[results,Tryz.results143,go_sem]) rfl ?_;rw[HR.out,HG.out,nU];exact⟨rfl,(hfw.trans jA).trans uU⟩
    ·rename_i b;rw[hex]at Lh HG
     have hb:=Z7 b hex;have HS:=Lib.hid (EC b hb);unfold exV at Lh;clear Z7 hex;cases neg
     ·go_wp2_with (first|(go_at_call 180;with_reducible refine(Cr _).mono ?_;rintro e w4 ⟨rfl,rfl⟩)|(go_at_call 182;with_reducible refine(dg _).mono ?_;rintro e w5 ⟨rfl,rfl⟩)|(go_at_call 183;refine(SY _).mono ?_;rintro e w6 ⟨rfl,tt,Ja⟩;have jA:=Fr.mV (.inr ⟨tt,Ja⟩);clear Ja)|(go_at_call 184;refine(Lh _ _ (hV.fr (hfw.trans jA) (by simp)) (Ji.fr HU.out jA)).mono ?_;rintro e w7 ⟨rfl,uU⟩))
      refine bodyPost_ret (v:=.tuple #[.int .u64 b,.int .i64 0]) (by simp[results,Tryz.results143,go_sem]) rfl ?_;rw[HR.out,HG.out];exact⟨rfl,(hfw.trans jA).trans uU⟩
     ·go_wp2_with (first|(go_at_call 180;with_reducible refine(Cr _).mono ?_;rintro e w4 ⟨rfl,rfl⟩)|(go_at_call 182;with_reducible refine(dg _).mono ?_;rintro e w5 ⟨rfl,rfl⟩)|(go_at_call 183;refine(SY _).mono ?_;rintro e w6 ⟨rfl,tt,Ja⟩;have jA:=Fr.mV (.inr ⟨tt,Ja⟩);clear Ja)|(go_at_call 184;refine(Lh _ _ (hV.fr (hfw.trans jA) (by simp)) (Ji.fr HU.out jA)).mono ?_;rintro e w7 ⟨rfl,uU⟩))
      refine bodyPost_ret (v:=.tuple #[.int .u64 (bits BinOp.or IntKind.u64 b 9223372036854775808),.int .i64 0]) (by simp[results,Tryz.results143,go_sem]) rfl ?_;rw[HR.out,HG.out,HS.out];exact⟨rfl,(hfw.trans jA).trans uU⟩end Go.Proofs.YtoomapkcoibmhaaGreatDoor
end
