/- A part of the proof. -/
import Derived.Test.YtoomapkcoibmhaaGreatDoorQ5
import Derived.Test.YtoomapkcoibmhaaGreatDoorQ42
import Derived.Test.YtoomapkcoibmhaaGreatDoorQ43
import Derived.Test.YtoomapkcoibmhaaGreatDoorQ44
import Derived.Test.YtoomapkcoibmhaaGreatDoorQ45
set_option maxRecDepth 100000
set_option maxHeartbeats 12800000
set_option linter.all false
section
namespace Ck
theorem upTo0 {p:Nat→Prop} (h:p 0) (a:Nat) (ha:a≤0):p a:=by
 obtain rfl:a=0:=by omega
 exact h
theorem upTo {p:Nat→Prop} {n:Nat} (h:∀a,a≤n→p a) (h1:p (n+1)) (a:Nat) (ha:a≤n+1):p a:=by
 by_cases e:a=n+1
 ·subst e;exact h1
 ·exact h a (by omega)
theorem six {d n:Nat} (hn:d≤n*6+5) (h:∀j,j≤n→scSix d j=true) (a:Nat) (ha:a≤d):scOk d a=true:=by
 have h1:=h (a/6) (by omega)
 unfold scSix at h1
 have h2:=List.all_eq_true.1 h1 (a%6) (List.mem_range.2 (Nat.mod_lt _ (by omega)))
 rw[show 6*(a/6)+a%6=a by omega]at h2
 simpa[Nat.not_lt.2 ha]using h2
theorem q0:∀a,a≤0→scOk 0 a=true:=six (n:=0) (by decide) (upTo0 (p:=fun j=>scSix 0 j=true) c0_0)
theorem q1:∀a,a≤1→scOk 1 a=true:=six (n:=0) (by decide) (upTo0 (p:=fun j=>scSix 1 j=true) c1_0)
theorem q2:∀a,a≤2→scOk 2 a=true:=six (n:=0) (by decide) (upTo0 (p:=fun j=>scSix 2 j=true) c2_0)
theorem q3:∀a,a≤3→scOk 3 a=true:=six (n:=0) (by decide) (upTo0 (p:=fun j=>scSix 3 j=true) c3_0)
theorem q4:∀a,a≤4→scOk 4 a=true:=six (n:=0) (by decide) (upTo0 (p:=fun j=>scSix 4 j=true) c4_0)
theorem q5:∀a,a≤5→scOk 5 a=true:=six (n:=0) (by decide) (upTo0 (p:=fun j=>scSix 5 j=true) c5_0)
theorem q6:∀a,a≤6→scOk 6 a=true:=six (n:=1) (by decide) (upTo (n:=0) (upTo0 (p:=fun j=>scSix 6 j=true) c6_0) c6_1)
theorem q7:∀a,a≤7→scOk 7 a=true:=six (n:=1) (by decide) (upTo (n:=0) (upTo0 (p:=fun j=>scSix 7 j=true) c7_0) c7_1)
theorem q8:∀a,a≤8→scOk 8 a=true:=six (n:=1) (by decide) (upTo (n:=0) (upTo0 (p:=fun j=>scSix 8 j=true) c8_0) c8_1)
theorem q9:∀a,a≤9→scOk 9 a=true:=six (n:=1) (by decide) (upTo (n:=0) (upTo0 (p:=fun j=>scSix 9 j=true) c9_0) c9_1)
theorem q10:∀a,a≤10→scOk 10 a=true:=six (n:=1) (by decide) (upTo (n:=0) (upTo0 (p:=fun j=>scSix 10 j=true) c10_0) c10_1)
theorem q11:∀a,a≤11→scOk 11 a=true:=six (n:=1) (by decide) (upTo (n:=0) (upTo0 (p:=fun j=>scSix 11 j=true) c11_0) c11_1)
theorem q12:∀a,a≤12→scOk 12 a=true:=six (n:=2) (by decide) (upTo (n:=1) (upTo (n:=0) (upTo0 (p:=fun j=>scSix 12 j=true) c12_0) c12_1) c12_2)
theorem q13:∀a,a≤13→scOk 13 a=true:=six (n:=2) (by decide) (upTo (n:=1) (upTo (n:=0) (upTo0 (p:=fun j=>scSix 13 j=true) c13_0) c13_1) c13_2)
theorem q14:∀a,a≤14→scOk 14 a=true:=six (n:=2) (by decide) (upTo (n:=1) (upTo (n:=0) (upTo0 (p:=fun j=>scSix 14 j=true) c14_0) c14_1) c14_2)
theorem q15:∀a,a≤15→scOk 15 a=true:=six (n:=2) (by decide) (upTo (n:=1) (upTo (n:=0) (upTo0 (p:=fun j=>scSix 15 j=true) c15_0) c15_1) c15_2)
theorem q16:∀a,a≤16→scOk 16 a=true:=six (n:=2) (by decide) (upTo (n:=1) (upTo (n:=0) (upTo0 (p:=fun j=>scSix 16 j=true) c16_0) c16_1) c16_2)
theorem q17:∀a,a≤17→scOk 17 a=true:=six (n:=2) (by decide) (upTo (n:=1) (upTo (n:=0) (upTo0 (p:=fun j=>scSix 17 j=true) c17_0) c17_1) c17_2)
theorem q18:∀a,a≤18→scOk 18 a=true:=six (n:=3) (by decide) (upTo (n:=2) (upTo (n:=1) (upTo (n:=0) (upTo0 (p:=fun j=>scSix 18 j=true) c18_0) c18_1) c18_2) c18_3)
theorem q19:∀a,a≤19→scOk 19 a=true:=six (n:=3) (by decide) (upTo (n:=2) (upTo (n:=1) (upTo (n:=0) (upTo0 (p:=fun j=>scSix 19 j=true) c19_0) c19_1) c19_2) c19_3)
theorem q20:∀a,a≤20→scOk 20 a=true:=six (n:=3) (by decide) (upTo (n:=2) (upTo (n:=1) (upTo (n:=0) (upTo0 (p:=fun j=>scSix 20 j=true) c20_0) c20_1) c20_2) c20_3)
theorem q21:∀a,a≤21→scOk 21 a=true:=six (n:=3) (by decide) (upTo (n:=2) (upTo (n:=1) (upTo (n:=0) (upTo0 (p:=fun j=>scSix 21 j=true) c21_0) c21_1) c21_2) c21_3)
theorem q22:∀a,a≤22→scOk 22 a=true:=six (n:=3) (by decide) (upTo (n:=2) (upTo (n:=1) (upTo (n:=0) (upTo0 (p:=fun j=>scSix 22 j=true) c22_0) c22_1) c22_2) c22_3)
theorem q23:∀a,a≤23→scOk 23 a=true:=six (n:=3) (by decide) (upTo (n:=2) (upTo (n:=1) (upTo (n:=0) (upTo0 (p:=fun j=>scSix 23 j=true) c23_0) c23_1) c23_2) c23_3)
theorem q24:∀a,a≤24→scOk 24 a=true:=six (n:=4) (by decide) (upTo (n:=3) (upTo (n:=2) (upTo (n:=1) (upTo (n:=0) (upTo0 (p:=fun j=>scSix 24 j=true) c24_0) c24_1) c24_2) c24_3) c24_4)
theorem q25:∀a,a≤25→scOk 25 a=true:=six (n:=4) (by decide) (upTo (n:=3) (upTo (n:=2) (upTo (n:=1) (upTo (n:=0) (upTo0 (p:=fun j=>scSix 25 j=true) c25_0) c25_1) c25_2) c25_3) c25_4)
theorem q26:∀a,a≤26→scOk 26 a=true:=six (n:=4) (by decide) (upTo (n:=3) (upTo (n:=2) (upTo (n:=1) (upTo (n:=0) (upTo0 (p:=fun j=>scSix 26 j=true) c26_0) c26_1) c26_2) c26_3) c26_4)
theorem q27:∀a,a≤27→scOk 27 a=true:=six (n:=4) (by decide) (upTo (n:=3) (upTo (n:=2) (upTo (n:=1) (upTo (n:=0) (upTo0 (p:=fun j=>scSix 27 j=true) c27_0) c27_1) c27_2) c27_3) c27_4)
theorem q28:∀a,a≤28→scOk 28 a=true:=six (n:=4) (by decide) (upTo (n:=3) (upTo (n:=2) (upTo (n:=1) (upTo (n:=0) (upTo0 (p:=fun j=>scSix 28 j=true) c28_0) c28_1) c28_2) c28_3) c28_4)
theorem q29:∀a,a≤29→scOk 29 a=true:=six (n:=4) (by decide) (upTo (n:=3) (upTo (n:=2) (upTo (n:=1) (upTo (n:=0) (upTo0 (p:=fun j=>scSix 29 j=true) c29_0) c29_1) c29_2) c29_3) c29_4)
theorem q30:∀a,a≤30→scOk 30 a=true:=six (n:=5) (by decide) (upTo (n:=4) (upTo (n:=3) (upTo (n:=2) (upTo (n:=1) (upTo (n:=0) (upTo0 (p:=fun j=>scSix 30 j=true) c30_0) c30_1) c30_2) c30_3) c30_4) c30_5)
theorem q31:∀a,a≤31→scOk 31 a=true:=six (n:=5) (by decide) (upTo (n:=4) (upTo (n:=3) (upTo (n:=2) (upTo (n:=1) (upTo (n:=0) (upTo0 (p:=fun j=>scSix 31 j=true) c31_0) c31_1) c31_2) c31_3) c31_4) c31_5)
theorem q32:∀a,a≤32→scOk 32 a=true:=six (n:=5) (by decide) (upTo (n:=4) (upTo (n:=3) (upTo (n:=2) (upTo (n:=1) (upTo (n:=0) (upTo0 (p:=fun j=>scSix 32 j=true) c32_0) c32_1) c32_2) c32_3) c32_4) c32_5)
theorem q33:∀a,a≤33→scOk 33 a=true:=six (n:=5) (by decide) (upTo (n:=4) (upTo (n:=3) (upTo (n:=2) (upTo (n:=1) (upTo (n:=0) (upTo0 (p:=fun j=>scSix 33 j=true) c33_0) c33_1) c33_2) c33_3) c33_4) c33_5)
theorem q34:∀a,a≤34→scOk 34 a=true:=six (n:=5) (by decide) (upTo (n:=4) (upTo (n:=3) (upTo (n:=2) (upTo (n:=1) (upTo (n:=0) (upTo0 (p:=fun j=>scSix 34 j=true) c34_0) c34_1) c34_2) c34_3) c34_4) c34_5)
theorem q35:∀a,a≤35→scOk 35 a=true:=six (n:=5) (by decide) (upTo (n:=4) (upTo (n:=3) (upTo (n:=2) (upTo (n:=1) (upTo (n:=0) (upTo0 (p:=fun j=>scSix 35 j=true) c35_0) c35_1) c35_2) c35_3) c35_4) c35_5)
theorem q36:∀a,a≤36→scOk 36 a=true:=six (n:=6) (by decide) (upTo (n:=5) (upTo (n:=4) (upTo (n:=3) (upTo (n:=2) (upTo (n:=1) (upTo (n:=0) (upTo0 (p:=fun j=>scSix 36 j=true) c36_0) c36_1) c36_2) c36_3) c36_4) c36_5) c36_6)
theorem q37:∀a,a≤37→scOk 37 a=true:=six (n:=6) (by decide) (upTo (n:=5) (upTo (n:=4) (upTo (n:=3) (upTo (n:=2) (upTo (n:=1) (upTo (n:=0) (upTo0 (p:=fun j=>scSix 37 j=true) c37_0) c37_1) c37_2) c37_3) c37_4) c37_5) c37_6)
theorem q38:∀a,a≤38→scOk 38 a=true:=six (n:=6) (by decide) (upTo (n:=5) (upTo (n:=4) (upTo (n:=3) (upTo (n:=2) (upTo (n:=1) (upTo (n:=0) (upTo0 (p:=fun j=>scSix 38 j=true) c38_0) c38_1) c38_2) c38_3) c38_4) c38_5) c38_6)
theorem q39:∀a,a≤39→scOk 39 a=true:=six (n:=6) (by decide) (upTo (n:=5) (upTo (n:=4) (upTo (n:=3) (upTo (n:=2) (upTo (n:=1) (upTo (n:=0) (upTo0 (p:=fun j=>scSix 39 j=true) c39_0) c39_1) c39_2) c39_3) c39_4) c39_5) c39_6)
theorem q40:∀a,a≤40→scOk 40 a=true:=six (n:=6) (by decide) (upTo (n:=5) (upTo (n:=4) (upTo (n:=3) (upTo (n:=2) (upTo (n:=1) (upTo (n:=0) (upTo0 (p:=fun j=>scSix 40 j=true) c40_0) c40_1) c40_2) c40_3) c40_4) c40_5) c40_6)
theorem sc_all:∀d,d≤40→∀a,a≤d→scOk d a=true:=upTo (n:=39) (upTo (n:=38) (upTo (n:=37) (upTo (n:=36) (upTo (n:=35) (upTo (n:=34) (upTo (n:=33) (upTo (n:=32) (upTo (n:=31) (upTo (n:=30) (upTo (n:=29) (upTo (n:=28) (upTo (n:=27) (upTo (n:=26) (upTo (n:=25) (upTo (n:=24) (upTo (n:=23) (upTo (n:=22) (upTo (n:=21) (upTo (n:=20) (upTo (n:=19) (upTo (n:=18) (upTo (n:=17) (upTo (n:=16) (upTo (n:=15) (upTo (n:=14) (upTo (n:=13) (upTo (n:=12) (upTo (n:=11) (upTo (n:=10) (upTo (n:=9) (upTo (n:=8) (upTo (n:=7) (upTo (n:=6) (upTo (n:=5) (upTo (n:=4) (upTo (n:=3) (upTo (n:=2) (upTo (n:=1) (upTo (n:=0) (upTo0 (p:=fun d=>∀a,a≤d→scOk d a=true) q0) q1) q2) q3) q4) q5) q6) q7) q8) q9) q10) q11) q12) q13) q14) q15) q16) q17) q18) q19) q20) q21) q22) q23) q24) q25) q26) q27) q28) q29) q30) q31) q32) q33) q34) q35) q36) q37) q38) q39) q40
theorem textOf_append (a b:List Pc):textOf (a++b)=textOf a++textOf b:=by simp[textOf]
theorem textOf_one (p:Pc):textOf [p]=p.b:=by simp[textOf]
def preI (m i:Nat):List Pc:=.fn::(if i≤m then List.replicate i .if_ else List.replicate m .if_++.let_::List.replicate (i-m) .if_)
theorem preI_zero (m:Nat):preI m 0=[.fn]:=by simp[preI]
theorem preI_let (m:Nat):preI m (m+1)=preI m m++[.let_]++[.if_]:=by
 unfold preI
 rw[if_neg (by omega),if_pos (Nat.le_refl _),show m+1-m=1 by omega]
 simp
theorem preI_if (m i:Nat) (h:i≠m):preI m (i+1)=preI m i++[.if_]:=by
 unfold preI
 by_cases c:i≤m
 ·rw[if_pos (by omega),if_pos c,List.replicate_succ',List.cons_append]
 ·rw[if_neg (by omega),if_neg c,show i+1-m=i-m+1 by omega,List.replicate_succ']
  simp
theorem preT_let (m:Nat):preT m m=preI m m++[.let_]:=by
 unfold preI preT
 rw[if_pos (Nat.le_refl _)];simp
theorem preT_no (n m:Nat) (h:m<n):preT n m=preI m n:=by
 unfold preI preT
 rw[if_neg (by omega)]
theorem rep_end (n:Nat):repB n [125,32]=textOf (List.replicate n .end_):=by
 induction n with
 | zero=>rfl
 | succ n ih=>rw[repB_succ,ih,List.replicate_succ',textOf_append,textOf_one];rfl
theorem ends_succ (n:Nat):textOf (List.replicate (n+1) .end_)=textOf (List.replicate n .end_)++[125,32]:=by
 rw[List.replicate_succ',textOf_append,textOf_one];rfl
theorem sc_one (n m:Nat) (hn:n≤40) (hm:m≤n):(loadM (textOf (preT n m)++[111,117,116,32,97,59,32]++textOf (List.replicate n .end_)++[125])).2.code=0:=by
 have h:=sc_all n hn m hm
 unfold scOk at h
 simp only[Bool.and_eq_true]at h
 have h1:=beq_iff_eq.1 h.1.1
 rw[←codeT_eq _ (by simp[preT];omega)]at h1
 rw[textOf_append]at h1
 rw[←h1]
 simp[textOf,Pc.b]
theorem sc_two (n m:Nat) (hn:n≤40) (hm:m≤n):∃c,(loadM (textOf (preT n m)++[108,101,116,32,97,32,61,32,97,59,32]++textOf (List.replicate n .end_)++[125])).2.code=c∧(m=n→c=80)∧(m≠n→c=0):=by
 have h:=sc_all n hn m hm
 unfold scOk at h
 simp only[Bool.and_eq_true]at h
 have h1:=h.1.2
 refine⟨_,rfl,?_,?_⟩
 all_goals
  rw[←codeT_eq _ (by simp[preT];omega)]at h1
  rw[textOf_append]at h1
  intro e
  simp[textOf,Pc.b,e]at h1 ⊢
  omega
theorem sc_three (n m:Nat) (hn:n≤40) (hm:m≤n) (h0:0<m):(loadM (textOf (preT n m)++textOf (List.replicate (n-m+1) .end_)++[111,117,116,32,97,59,32]++textOf (List.replicate (m-1) .end_)++[125])).2.code=63:=by
 have h:=sc_all n hn m hm
 unfold scOk at h
 simp only[Bool.and_eq_true]at h
 have h1:=h.2
 simp only[Bool.or_eq_true,beq_iff_eq]at h1
 rcases h1 with(h1|h1)|h1
 ·omega
 ·omega
 rw[←codeT_eq _ (by simp[preT];omega)]at h1
 rw[textOf_append,textOf_append]at h1
 rw[←h1]
 simp[textOf,Pc.b]
end Ck
end
