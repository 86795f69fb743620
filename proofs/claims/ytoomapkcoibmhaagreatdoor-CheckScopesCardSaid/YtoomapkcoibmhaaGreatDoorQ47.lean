/- A part of the proof. -/
import Derived.Test.YtoomapkcoibmhaaGreatDoorQ40
import Derived.Test.YtoomapkcoibmhaaGreatDoorQ46
set_option maxRecDepth 100000
set_option maxHeartbeats 12800000
set_option linter.all false
section
open Go Go.Proofs Go.RowKit Go.Shelf Go.Lib Ck
namespace Go.Proofs.YtoomapkcoibmhaaGreatDoor
attribute [local go_sem] Oper.semAt_some
theorem ba_add (a b:Bytes):(⟨a.toArray⟩:ByteArray)++(⟨b.toArray⟩:ByteArray)=⟨(a++b).toArray⟩:=bytes_add a b
theorem scopes_out (d a:Int) (hg:¬(0≤d∧d≤40∧0≤a∧a≤d)) (w:World) :
  Calls Tryz.prog 5 #[.int .i64 d,.int .i64 a] w fun e w'=>e=.returned (.bool true)∧Fr [] w w':=by
 go_enter Tryz.func5,Tryz.ntmps5
 by_cases h1:d<0
 ·go_wp2
  go_ret
  exact⟨rfl,Fr.refl _ _⟩
 by_cases h2:40<d
 ·go_wp2
  go_ret
  exact⟨rfl,Fr.refl _ _⟩
 by_cases h3:a<0
 ·go_wp2
  go_ret
  exact⟨rfl,Fr.refl _ _⟩
 have h4:d<a:=by omega
 go_wp2
 go_ret
 exact⟨rfl,Fr.refl _ _⟩
theorem scopes_in (n m:Nat) (hn:n≤40) (hm:m≤n) (w:World) (hV:Vars w) :
  Calls Tryz.prog 5 #[.int .i64 n,.int .i64 m] w fun e w'=>e=.returned (.bool true)∧Fr [] w w':=by
 obtain⟨z,hz⟩:∃z,z=textOf (preT n m):=⟨_,rfl⟩
 obtain⟨en,he⟩:∃e,e=textOf (List.replicate n .end_):=⟨_,rfl⟩
 have H1:=sc_one n m hn hm
 obtain⟨c2,H2,hc2,hc2'⟩:=sc_two n m hn hm
 rw[←hz,←he]at H1 H2
 obtain⟨a1,ha1⟩:∃a,(loadM (z++[111,117,116,32,97,59,32]++en++[125])).2.at'=a:=⟨_,rfl⟩
 obtain⟨a2,ha2⟩:∃a,(loadM (z++[108,101,116,32,97,32,61,32,97,59,32]++en++[125])).2.at'=a:=⟨_,rfl⟩
 have hzl:z.length≤900:=by
  rw[hz]
  refine Nat.le_trans (textOf_len _) ?_
  simp[preT];omega
 have hel:en.length≤900:=by
  rw[he]
  refine Nat.le_trans (textOf_len _) ?_
  simp;omega
 have L1:=fun X hX=>Load_all (z++[111,117,116,32,97,59,32]++en++[125]) X hX (by simp;omega)
 have L2:=fun X hX=>Load_all (z++[108,101,116,32,97,32,61,32,97,59,32]++en++[125]) X hX (by simp;omega)
 rw[H1,ha1]at L1
 rw[H2,ha2]at L2
 rw[←ba_add,←ba_add,←ba_add]at L1 L2
 have HV:=Lib.hid hV
 have HZ:=Lib.hid hz;have HE:=Lib.hid he
 clear hV H1 H2 ha1 ha2 hz he
 go_enter Tryz.func5,Tryz.ntmps5
 go_wp2
 go_loopw [5,6] (fun t i wr=>∃(k:Nat) (x:Bytes),i=.int .i64 k∧k≤n∧t=.string ⟨x.toArray⟩∧x.length≤21*k+9∧Hid (x=textOf (preI m k))∧Hid (Fr [] w wr)) (fun _ i _=>n-(intOf i).toNat)
 case atStart=>exact⟨0,textOf (preI m 0),rfl,Nat.zero_le _,by rw[preI_zero];rfl,by rw[preI_zero];decide,Lib.hid rfl,Lib.hid (Fr.refl _ _)⟩
 case round =>
  obtain⟨k,x,rfl,hk,rfl,hxl,hx,hf⟩:=hrel
  by_cases hlt:k<n
  ·by_cases hkm:k=m
   ·go_wp2
    refine⟨⟨k+1,x++[108,101,116,32,97,32,61,32,49,59,32]++[105,102,32,116,114,117,101,32,123,32],by go_num,by omega,by rw[←ba_add,←ba_add],by simp;omega,Lib.hid ?_,hf⟩,by simp[intOf];omega⟩
    rw[hx.out,hkm,preI_let,textOf_append,textOf_append,textOf_one,textOf_one];rfl
   ·go_wp2
    refine⟨⟨k+1,x++[105,102,32,116,114,117,101,32,123,32],by go_num,by omega,by rw[←ba_add],by simp;omega,Lib.hid ?_,hf⟩,by simp[intOf];omega⟩
    rw[hx.out,preI_if _ _ hkm,textOf_append,textOf_one];rfl
  ·obtain rfl:k=n:=by omega
   have hd:((⟨x.toArray⟩:ByteArray)=⟨z.toArray⟩∧m<k∧((m:Int)==(k:Int))=false∧c2=0)∨((⟨x.toArray⟩:ByteArray)++⟨#[108,101,116,32,97,32,61,32,49,59,32]⟩=⟨z.toArray⟩∧k≤m∧((m:Int)==(k:Int))=true∧c2=80):=by
    rcases Nat.lt_or_ge m k with e|e
    ·exact .inl ⟨by rw[hx.out,HZ.out,preT_no _ _ e],e,by rw[beq_eq_false_iff_ne];omega,hc2' (by omega)⟩
    ·obtain rfl:m=k:=by omega
     refine .inr ⟨?_,Nat.le_refl _,by simp,hc2 rfl⟩
     rw[show(⟨#[108,101,116,32,97,32,61,32,49,59,32]⟩:ByteArray)=⟨([108,101,116,32,97,32,61,32,49,59,32]:Bytes).toArray⟩from rfl,ba_add,hx.out,HZ.out,preT_let,textOf_append,textOf_one];rfl
   rcases hd with⟨hd,hmk,hmj,rfl⟩|⟨hd,hmk,hmj,rfl⟩
   all_goals clear hc2 hc2'
   all_goals go_wp2
   all_goals try rw[hd]
   all_goals (
    go_loopw [8,9] (fun t i wr=>∃(j:Nat) (y:Bytes),i=.int .i64 j∧j≤k∧t=.string ⟨y.toArray⟩∧y.length≤2*j∧Hid (y=textOf (List.replicate j .end_))∧Hid (Fr [] w wr)) (fun _ i _=>k-(intOf i).toNat)
    case atStart=>exact⟨0,[],rfl,Nat.zero_le _,rfl,by simp,Lib.hid rfl,hf⟩
    case round =>
     clear hf hx hd
     obtain⟨j,y,rfl,hj,rfl,hyl,hy,hf⟩:=hrel
     by_cases hjk:j<k
     ·go_wp2
      refine⟨⟨j+1,y++[125,32],by go_num,by omega,by rw[←ba_add],by simp;omega,Lib.hid ?_,hf⟩,by simp[intOf];omega⟩
      rw[hy.out,ends_succ]
     ·obtain rfl:j=k:=by omega
      obtain rfl:y=en:=by rw[hy.out,HE.out]
      clear hy
      have hf0:=hf.out
      clear hf
      by_cases hm0:m=0
      ·have hmb:((m:Int)==0)=true:=by rw[beq_iff_eq];omega
       clear hm0
       cases hkb:((j:Int)==0)
       all_goals first|(exfalso;have h1:=beq_eq_false_iff_ne.1 hkb;have h2:=beq_iff_eq.1 hmb;have h3:=beq_iff_eq.1 hmj;omega)|(
        go_wp2_with (first
         | (go_at_call 8;refine(L1 _ (HV.out.fr hf0 (by simp))).mono ?_;rintro e w1 ⟨v1,rfl,_,hf1⟩;have hb1:=Blk.new w1 #[.int .i64 0,.int .i64 a1] 26;obtain⟨q1,q2,q3,q4⟩:=hb1.rules;clear L1)
         | (go_at_call 8;refine(L2 _ (HV.out.fr ((hf0.trans hf1).alloc _) (by simp))).mono ?_;rintro e w2 ⟨v2,rfl,_,hf2⟩;obtain⟨r1,r2,r3,r4⟩:=(hb1.fr hf2 (by simp)).rules;clear L2)
         | (go_at_call 11;refine(awake_any _ (HV.out.fr ((((hf0.trans hf1).alloc _).trans hf2).blk (.inr (hf0.trans hf1).size) _ _) (by simp))).mono ?_;rintro e w3 ⟨rfl,hf3⟩))
        go_ret
        exact⟨rfl,((((hf0.trans hf1).alloc _).trans hf2).blk (.inr (hf0.trans hf1).size) _ _).trans hf3⟩)
      ·have hmb:((m:Int)==0)=false:=by rw[beq_eq_false_iff_ne];omega
       have hkb:((j:Int)==0)=false:=by rw[beq_eq_false_iff_ne];omega
       go_wp2_with (first
        | (go_at_call 8;refine(L1 _ (HV.out.fr hf0 (by simp))).mono ?_;rintro e w1 ⟨v1,rfl,_,hf1⟩;have hb1:=Blk.new w1 #[.int .i64 0,.int .i64 a1] 26;obtain⟨q1,q2,q3,q4⟩:=hb1.rules;clear L1)
        | (go_at_call 8;refine(L2 _ (HV.out.fr ((hf0.trans hf1).alloc _) (by simp))).mono ?_;rintro e w2 ⟨v2,rfl,_,hf2⟩;obtain⟨r1,r2,r3,r4⟩:=(hb1.fr hf2 (by simp)).rules;clear L2))
       have hF2:=Lib.hid ((((hf0.trans hf1).alloc (.cells #[.int .i64 0,.int .i64 a1] 26)).trans hf2).blk (b:=w1.heap.size) (.inr (hf0.trans hf1).size))
       have hB2:=fun c=>Lib.hid (Blk.blk (c:=c) (T:=26) r4)
       have hgl:=(hf0.trans hf1).size
       generalize w1.heap.size=b at *
       clear hb1 hf1 hf2 q1 q2 q3 q4 r1 r2 r3 r4 hf0
       go_loopw [12,13] (fun t i wr2=>∃(j2:Nat) (y2:Bytes),i=.int .i64 j2∧j2≤j-m+1∧t=.string ⟨y2.toArray⟩∧y2.length≤2*j2∧Hid (y2=textOf (List.replicate j2 .end_))∧Hid (Fr [] w wr2)∧∃c,Hid (Blk wr2 b c 26)∧c.size=2) (fun _ i _=>j+1-(intOf i).toNat)
       case atStart=>exact⟨0,[],rfl,Nat.zero_le _,rfl,by simp,Lib.hid rfl,Lib.hid (hF2.out _ _),_,hB2 _,rfl⟩
       case round =>
        clear hF2 hB2
        obtain⟨j2,y2,rfl,hj2,rfl,hyl2,hy2,hf2,c,hB,hcs⟩:=hrel
        by_cases hjm:j2<j-m+1
        ·go_wp2
         refine⟨⟨j2+1,y2++[125,32],by go_num,by omega,by rw[←ba_add],by simp;omega,Lib.hid ?_,hf2,c,hB,hcs⟩,by simp[intOf];omega⟩
         rw[hy2.out,ends_succ]
        ·have hje:j2=j-m+1:=by omega
         rw[hje]at hy2
         clear hje
         have H3:=sc_three j m (by omega) (by omega) (by omega)
         rw[←HZ.out,←hy2.out,←rep_end]at H3
         obtain⟨a3,ha3⟩:∃a,(loadM (z++y2++[111,117,116,32,97,59,32]++repB (m-1) [125,32]++[125])).2.at'=a:=⟨_,rfl⟩
         have hrl:=repB_len (m-1) [125,32]
         simp only[List.length_cons,List.length_nil]at hrl
         have L3:=fun X hX=>Load_all (z++y2++[111,117,116,32,97,59,32]++repB (m-1) [125,32]++[125]) X hX (by simp;omega)
         rw[H3,ha3,←ba_add,←ba_add,←ba_add,←ba_add]at L3
         have TX:=fun X=>text_any [125,32] (m-1) (by simp) (by omega) X
         rw[show((m-1:Nat):Int)=(m:Int)-1 by omega]at TX
         generalize repB (m-1) [125,32]=rp at *
         clear H3 ha3 hy2
         have hf0:=hf2.out
         have hb0:=hB.out
         clear hf2 hB
         go_wp2_with (first
          | (go_at_call 10;refine(TX _).mono ?_;rintro e w3 ⟨rfl,hf3⟩;clear TX)
          | (go_at_call 8;refine(L3 _ (HV.out.fr (hf0.trans hf3) (by simp))).mono ?_;rintro e w4 ⟨v4,rfl,_,hf4⟩;obtain⟨r1,r2,r3,r4⟩:=((hb0.fr hf3 (by simp)).fr hf4 (by simp)).rules;clear L3)
          | (go_at_call 11;refine(awake_any _ (HV.out.fr (((hf0.trans hf3).trans hf4).blk (.inr hgl) _ _) (by simp))).mono ?_;rintro e w5 ⟨rfl,hf5⟩))
         go_ret
         exact⟨rfl,(((hf0.trans hf3).trans hf4).blk (.inr hgl) _ _).trans hf5⟩)
theorem scopes_any (d a:Int) (w:World) (hV:Vars w) :
  Calls Tryz.prog 5 #[.int .i64 d,.int .i64 a] w fun e w'=>e=.returned (.bool true)∧Fr [] w w':=by
 by_cases hg:0≤d∧d≤40∧0≤a∧a≤d
 ·have h:=scopes_in d.toNat a.toNat (by omega) (by omega) w hV
  rw[show((d.toNat:Nat):Int)=d by omega,show((a.toNat:Nat):Int)=a by omega]at h
  exact h
 ·exact scopes_out d a hg w
end Go.Proofs.YtoomapkcoibmhaaGreatDoor
end
