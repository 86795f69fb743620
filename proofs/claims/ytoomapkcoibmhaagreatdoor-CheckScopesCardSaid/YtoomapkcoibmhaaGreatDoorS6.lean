/- A part of the proof. -/
import Derived.Test.YtoomapkcoibmhaaGreatDoorQ46
import Derived.Test.YtoomapkcoibmhaaGreatDoorS2
import Derived.Test.YtoomapkcoibmhaaGreatDoorS3
import Derived.Test.YtoomapkcoibmhaaGreatDoorS4
import Derived.Test.YtoomapkcoibmhaaGreatDoorS5
set_option maxRecDepth 100000
set_option maxHeartbeats 12800000
set_option linter.all false
section
namespace Ck
theorem eu {p:Nat→Prop} (h:p 0) (a:Nat) (ha:a≤0):p a:=by
 obtain rfl:a=0:=by omega
 exact h
theorem upTo {p:Nat→Prop} {n:Nat} (h:∀a,a≤n→p a) (h1:p (n+1)) (a:Nat) (ha:a≤n+1):p a:=by
 by_cases e:a=n+1
 ·subst e;exact h1
 ·exact h a (by omega)
theorem six {d n:Nat} (hn:d≤n*6+5) (h:∀j,j≤n→ay d j=true) (a:Nat) (ha:a≤d):gH d a=true:=by
 have h1:=h (a/6) (by omega);unfold ay at h1;have h2:=List.all_eq_true.1 h1 (a%6) (List.mem_range.2 (Nat.mod_lt _ (by omega)));rw[show 6*(a/6)+a%6=a by omega]at h2
 simpa[Nat.not_lt.2 ha]using h2
theorem q0:∀a,a≤0→gH 0 a=true:=six (n:=0) (by decide) (eu (p:=fun j=>ay 0 j=true) acs)
theorem q1:∀a,a≤1→gH 1 a=true:=six (n:=0) (by decide) (eu (p:=fun j=>ay 1 j=true) acu)
theorem q2:∀a,a≤2→gH 2 a=true:=six (n:=0) (by decide) (eu (p:=fun j=>ay 2 j=true) acv)
theorem q3:∀a,a≤3→gH 3 a=true:=six (n:=0) (by decide) (eu (p:=fun j=>ay 3 j=true) acw)
theorem q4:∀a,a≤4→gH 4 a=true:=six (n:=0) (by decide) (eu (p:=fun j=>ay 4 j=true) acy)
theorem q5:∀a,a≤5→gH 5 a=true:=six (n:=0) (by decide) (eu (p:=fun j=>ay 5 j=true) acz)
theorem q6:∀a,a≤6→gH 6 a=true:=six (n:=1) (by decide) (upTo (n:=0) (eu (p:=fun j=>ay 6 j=true) acA) acB)
theorem q7:∀a,a≤7→gH 7 a=true:=six (n:=1) (by decide) (upTo (n:=0) (eu (p:=fun j=>ay 7 j=true) acC) acD)
theorem q8:∀a,a≤8→gH 8 a=true:=six (n:=1) (by decide) (upTo (n:=0) (eu (p:=fun j=>ay 8 j=true) acE) acF)
theorem q9:∀a,a≤9→gH 9 a=true:=six (n:=1) (by decide) (upTo (n:=0) (eu (p:=fun j=>ay 9 j=true) acG) acH)
theorem q10:∀a,a≤10→gH 10 a=true:=six (n:=1) (by decide) (upTo (n:=0) (eu (p:=fun j=>ay 10 j=true) Xn) Xo)
theorem q11:∀a,a≤11→gH 11 a=true:=six (n:=1) (by decide) (upTo (n:=0) (eu (p:=fun j=>ay 11 j=true) Xp) Xq)
theorem q12:∀a,a≤12→gH 12 a=true:=six (n:=2) (by decide) (upTo (n:=1) (upTo (n:=0) (eu (p:=fun j=>ay 12 j=true) Xr) Xt) Xu)
theorem q13:∀a,a≤13→gH 13 a=true:=six (n:=2) (by decide) (upTo (n:=1) (upTo (n:=0) (eu (p:=fun j=>ay 13 j=true) Xv) Xw) Xx)
theorem q14:∀a,a≤14→gH 14 a=true:=six (n:=2) (by decide) (upTo (n:=1) (upTo (n:=0) (eu (p:=fun j=>ay 14 j=true) Xy) Xz) XA)
theorem q15:∀a,a≤15→gH 15 a=true:=six (n:=2) (by decide) (upTo (n:=1) (upTo (n:=0) (eu (p:=fun j=>ay 15 j=true) XB) XC) XD)
theorem q16:∀a,a≤16→gH 16 a=true:=six (n:=2) (by decide) (upTo (n:=1) (upTo (n:=0) (eu (p:=fun j=>ay 16 j=true) XE) XF) XG)
theorem q17:∀a,a≤17→gH 17 a=true:=six (n:=2) (by decide) (upTo (n:=1) (upTo (n:=0) (eu (p:=fun j=>ay 17 j=true) XH) XI) XJ)
theorem q18:∀a,a≤18→gH 18 a=true:=six (n:=3) (by decide) (upTo (n:=2) (upTo (n:=1) (upTo (n:=0) (eu (p:=fun j=>ay 18 j=true) XK) XL) XM) XO)
theorem q19:∀a,a≤19→gH 19 a=true:=six (n:=3) (by decide) (upTo (n:=2) (upTo (n:=1) (upTo (n:=0) (eu (p:=fun j=>ay 19 j=true) XP) XQ) XR) XT)
theorem q20:∀a,a≤20→gH 20 a=true:=six (n:=3) (by decide) (upTo (n:=2) (upTo (n:=1) (upTo (n:=0) (eu (p:=fun j=>ay 20 j=true) XU) XV) XW) XY)
theorem q21:∀a,a≤21→gH 21 a=true:=six (n:=3) (by decide) (upTo (n:=2) (upTo (n:=1) (upTo (n:=0) (eu (p:=fun j=>ay 21 j=true) XZ) X0) X3) X4)
theorem q22:∀a,a≤22→gH 22 a=true:=six (n:=3) (by decide) (upTo (n:=2) (upTo (n:=1) (upTo (n:=0) (eu (p:=fun j=>ay 22 j=true) X5) X6) X7) X8)
theorem q23:∀a,a≤23→gH 23 a=true:=six (n:=3) (by decide) (upTo (n:=2) (upTo (n:=1) (upTo (n:=0) (eu (p:=fun j=>ay 23 j=true) X9) Ya) Yb) Yc)
theorem q24:∀a,a≤24→gH 24 a=true:=six (n:=4) (by decide) (upTo (n:=3) (upTo (n:=2) (upTo (n:=1) (upTo (n:=0) (eu (p:=fun j=>ay 24 j=true) Yd) Ye) Yf) Yg) Yh)
theorem q25:∀a,a≤25→gH 25 a=true:=six (n:=4) (by decide) (upTo (n:=3) (upTo (n:=2) (upTo (n:=1) (upTo (n:=0) (eu (p:=fun j=>ay 25 j=true) Yi) Yj) Yk) Yl) Ym)
theorem q26:∀a,a≤26→gH 26 a=true:=six (n:=4) (by decide) (upTo (n:=3) (upTo (n:=2) (upTo (n:=1) (upTo (n:=0) (eu (p:=fun j=>ay 26 j=true) Yn) Yo) Yp) Yq) Yr)
theorem q27:∀a,a≤27→gH 27 a=true:=six (n:=4) (by decide) (upTo (n:=3) (upTo (n:=2) (upTo (n:=1) (upTo (n:=0) (eu (p:=fun j=>ay 27 j=true) Yt) Yu) Yv) Yw) Yx)
theorem q28:∀a,a≤28→gH 28 a=true:=six (n:=4) (by decide) (upTo (n:=3) (upTo (n:=2) (upTo (n:=1) (upTo (n:=0) (eu (p:=fun j=>ay 28 j=true) Yy) Yz) YA) YB) YC)
theorem q29:∀a,a≤29→gH 29 a=true:=six (n:=4) (by decide) (upTo (n:=3) (upTo (n:=2) (upTo (n:=1) (upTo (n:=0) (eu (p:=fun j=>ay 29 j=true) YD) YE) YF) YG) YH)
theorem q30:∀a,a≤30→gH 30 a=true:=six (n:=5) (by decide) (upTo (n:=4) (upTo (n:=3) (upTo (n:=2) (upTo (n:=1) (upTo (n:=0) (eu (p:=fun j=>ay 30 j=true) YI) YJ) YK) YL) YM) YN)
theorem q31:∀a,a≤31→gH 31 a=true:=six (n:=5) (by decide) (upTo (n:=4) (upTo (n:=3) (upTo (n:=2) (upTo (n:=1) (upTo (n:=0) (eu (p:=fun j=>ay 31 j=true) YO) YP) YQ) YR) YS) YT)
theorem q32:∀a,a≤32→gH 32 a=true:=six (n:=5) (by decide) (upTo (n:=4) (upTo (n:=3) (upTo (n:=2) (upTo (n:=1) (upTo (n:=0) (eu (p:=fun j=>ay 32 j=true) YU) YV) YW) YX) YZ) Y0)
theorem q33:∀a,a≤33→gH 33 a=true:=six (n:=5) (by decide) (upTo (n:=4) (upTo (n:=3) (upTo (n:=2) (upTo (n:=1) (upTo (n:=0) (eu (p:=fun j=>ay 33 j=true) Y1) Y2) Y3) Y4) Y5) Y6)
theorem q34:∀a,a≤34→gH 34 a=true:=six (n:=5) (by decide) (upTo (n:=4) (upTo (n:=3) (upTo (n:=2) (upTo (n:=1) (upTo (n:=0) (eu (p:=fun j=>ay 34 j=true) Y7) Y8) Y9) Za) Zb) Zc)
theorem q35:∀a,a≤35→gH 35 a=true:=six (n:=5) (by decide) (upTo (n:=4) (upTo (n:=3) (upTo (n:=2) (upTo (n:=1) (upTo (n:=0) (eu (p:=fun j=>ay 35 j=true) Zd) Ze) Zf) Zg) Zh) Zi)
theorem q36:∀a,a≤36→gH 36 a=true:=six (n:=6) (by decide) (upTo (n:=5) (upTo (n:=4) (upTo (n:=3) (upTo (n:=2) (upTo (n:=1) (upTo (n:=0) (eu (p:=fun j=>ay 36 j=true) Zj) Zk) Zl) Zm) Zn) Zo) Zp)
theorem q37:∀a,a≤37→gH 37 a=true:=six (n:=6) (by decide) (upTo (n:=5) (upTo (n:=4) (upTo (n:=3) (upTo (n:=2) (upTo (n:=1) (upTo (n:=0) (eu (p:=fun j=>ay 37 j=true) Zq) Zr) Zt) Zu) Zv) Zw) Zx)
theorem q38:∀a,a≤38→gH 38 a=true:=six (n:=6) (by decide) (upTo (n:=5) (upTo (n:=4) (upTo (n:=3) (upTo (n:=2) (upTo (n:=1) (upTo (n:=0) (eu (p:=fun j=>ay 38 j=true) Zy) Zz) ZA) ZB) ZC) ZE) ZF)
theorem q39:∀a,a≤39→gH 39 a=true:=six (n:=6) (by decide) (upTo (n:=5) (upTo (n:=4) (upTo (n:=3) (upTo (n:=2) (upTo (n:=1) (upTo (n:=0) (eu (p:=fun j=>ay 39 j=true) ZG) ZH) ZI) ZJ) ZK) ZL) ZM)
theorem q40:∀a,a≤40→gH 40 a=true:=six (n:=6) (by decide) (upTo (n:=5) (upTo (n:=4) (upTo (n:=3) (upTo (n:=2) (upTo (n:=1) (upTo (n:=0) (eu (p:=fun j=>ay 40 j=true) ZN) ZO) ZP) ZQ) ZR) ZT) ZU)
theorem K6:∀d,d≤40→∀a,a≤d→gH d a=true:=upTo (n:=39) (upTo (n:=38) (upTo (n:=37) (upTo (n:=36) (upTo (n:=35) (upTo (n:=34) (upTo (n:=33) (upTo (n:=32) (upTo (n:=31) (upTo (n:=30) (upTo (n:=29) (upTo (n:=28) (upTo (n:=27) (upTo (n:=26) (upTo (n:=25) (upTo (n:=24) (upTo (n:=23) (upTo (n:=22) (upTo (n:=21) (upTo (n:=20) (upTo (n:=19) (upTo (n:=18) (upTo (n:=17) (upTo (n:=16) (upTo (n:=15) (upTo (n:=14) (upTo (n:=13) (upTo (n:=12) (upTo (n:=11) (upTo (n:=10) (upTo (n:=9) (upTo (n:=8) (upTo (n:=7) (upTo (n:=6) (upTo (n:=5) (upTo (n:=4) (upTo (n:=3) (upTo (n:=2) (upTo (n:=1) (upTo (n:=0) (eu (p:=fun d=>∀a,a≤d→gH d a=true) q0) q1) q2) q3) q4) q5) q6) q7) q8) q9) q10) q11) q12) q13) q14) q15) q16) q17) q18) q19) q20) q21) q22) q23) q24) q25) q26) q27) q28) q29) q30) q31) q32) q33) q34) q35) q36) q37) q38) q39) q40
theorem eT (a b:List Pc):textOf (a++b)=textOf a++textOf b:=by simp[textOf]
theorem l7 (p:Pc):textOf [p]=p.b:=by simp[textOf]
def wH (m i:Nat):List Pc:=.fn::(if i≤m then List.replicate i .if_ else List.replicate m .if_++.K5::List.replicate (i-m) .if_)
theorem Ev (m:Nat):wH m 0=[.fn]:=by simp[wH]
theorem QU (m:Nat):wH m (m+1)=wH m m++[.K5]++[.if_]:=by
 unfold wH;rw[if_neg (by omega),if_pos (Nat.le_refl _),show m+1-m=1 by omega];simp
theorem SB (m i:Nat) (h:i≠m):wH m (i+1)=wH m i++[.if_]:=by
 unfold wH;by_cases c:i≤m
 ·rw[if_pos (by omega),if_pos c,List.replicate_succ',List.cons_append]
 ·rw[if_neg (by omega),if_neg c,show i+1-m=i-m+1 by omega,List.replicate_succ'];simp
theorem QV (m:Nat):vC m m=wH m m++[.K5]:=by
 unfold wH vC;rw[if_pos (Nat.le_refl _)];simp
theorem SC (n m:Nat) (h:m<n):vC n m=wH m n:=by
 unfold wH vC;rw[if_neg (by omega)]
theorem SE (n:Nat):xZ n [125,32]=textOf (List.replicate n .end_):=by
 induction n with
 | zero=>rfl
 | succ n ih=>rw[x9,ih,List.replicate_succ',eT,l7];rfl
theorem Ew (n:Nat):textOf (List.replicate (n+1) .end_)=textOf (List.replicate n .end_)++[125,32]:=by
 rw[List.replicate_succ',eT,l7];rfl
theorem UL (n m:Nat) (hn:n≤40) (hm:m≤n):(kU (textOf (vC n m)++[111,117,116,32,97,59,32]++textOf (List.replicate n .end_)++[125])).2.code=0:=by
 have h:=K6 n hn m hm;unfold gH at h;simp only[Bool.and_eq_true]at h;have h1:=beq_iff_eq.1 h.1.1;rw[←Cb _ (by simp[vC];omega)]at h1
 rw[eT]at h1
 rw[←h1];simp[textOf,Pc.b]
theorem UM (n m:Nat) (hn:n≤40) (hm:m≤n):∃c,(kU (textOf (vC n m)++[108,101,116,32,97,32,61,32,97,59,32]++textOf (List.replicate n .end_)++[125])).2.code=c∧(m=n→c=80)∧(m≠n→c=0):=by
 have h:=K6 n hn m hm;unfold gH at h;simp only[Bool.and_eq_true]at h;have h1:=h.1.2;refine⟨_,rfl,?_,?_⟩
 all_goals
  rw[←Cb _ (by simp[vC];omega)]at h1
  rw[eT]at h1
  intro e;simp[textOf,Pc.b,e]at h1 ⊢
  omega
theorem QW (n m:Nat) (hn:n≤40) (hm:m≤n) (h0:0<m):(kU (textOf (vC n m)++textOf (List.replicate (n-m+1) .end_)++[111,117,116,32,97,59,32]++textOf (List.replicate (m-1) .end_)++[125])).2.code=63:=by
 have h:=K6 n hn m hm;unfold gH at h;simp only[Bool.and_eq_true]at h;have h1:=h.2;simp only[Bool.or_eq_true,beq_iff_eq]at h1;rcases h1 with(h1|h1)|h1
 ·omega
 ·omega
 rw[←Cb _ (by simp[vC];omega)]at h1
 rw[eT,eT]at h1
 rw[←h1];simp[textOf,Pc.b]
end Ck
end
section
open Go Go.Proofs Go.RowKit Go.Shelf Go.Lib Ck
namespace Go.Proofs.YtoomapkcoibmhaaGreatDoor
attribute [local go_sem] Oper.semAt_some
theorem mh (a b:Bytes):(⟨a.toArray⟩:ByteArray)++(⟨b.toArray⟩:ByteArray)=⟨(a++b).toArray⟩:=D8 a b
theorem K7 (d a:Int) (hg:¬(0≤d∧d≤40∧0≤a∧a≤d)) (w:World) :
  Calls Tryz.prog 5 #[.int .i64 d,.int .i64 a] w fun e w'=>e=.returned (.bool true)∧Fr [] w w':=by
 go_enter Tryz.func5,Tryz.ntmps5;by_cases h1:d<0
 ·go_wp2;go_ret;exact⟨rfl,Fr.refl _ _⟩
 by_cases h2:40<d
 ·go_wp2;go_ret;exact⟨rfl,Fr.refl _ _⟩
 by_cases h3:a<0
 ·go_wp2;go_ret;exact⟨rfl,Fr.refl _ _⟩
 have h4:d<a:=by omega
 go_wp2;go_ret;exact⟨rfl,Fr.refl _ _⟩
theorem NQ (n m:Nat) (hn:n≤40) (hm:m≤n) (w:World) (hV:Vars w) :
  Calls Tryz.prog 5 #[.int .i64 n,.int .i64 m] w fun e w'=>e=.returned (.bool true)∧Fr [] w w':=by
 obtain⟨z,hz⟩:∃z,z=textOf (vC n m):=⟨_,rfl⟩
 obtain⟨en,he⟩:∃e,e=textOf (List.replicate n .end_):=⟨_,rfl⟩
 have H1:=UL n m hn hm;obtain⟨c2,H2,hc2,hc2'⟩:=UM n m hn hm
 rw[←hz,←he]at H1 H2
 obtain⟨a1,ha1⟩:∃a,(kU (z++[111,117,116,32,97,59,32]++en++[125])).2.at'=a:=⟨_,rfl⟩
 obtain⟨a2,ha2⟩:∃a,(kU (z++[108,101,116,32,97,32,61,32,97,59,32]++en++[125])).2.at'=a:=⟨_,rfl⟩
 have hzl:z.length≤900:=by
  rw[hz];refine Nat.le_trans (rF _) ?_;simp[vC];omega
 have hel:en.length≤900:=by
  rw[he];refine Nat.le_trans (rF _) ?_;simp;omega
 have L1:=fun X hX=>sU (z++[111,117,116,32,97,59,32]++en++[125]) X hX (by simp;omega)
 have L2:=fun X hX=>sU (z++[108,101,116,32,97,32,61,32,97,59,32]++en++[125]) X hX (by simp;omega)
 rw[H1,ha1]at L1
 rw[H2,ha2]at L2
 rw[←mh,←mh,←mh]at L1 L2
 have HV:=Lib.hid hV;have HZ:=Lib.hid hz;have HE:=Lib.hid he;clear hV H1 H2 ha1 ha2 hz he;go_enter Tryz.func5,Tryz.ntmps5;go_wp2
 go_loopw [5,6] (fun t i wr=>∃(k:Nat) (x:Bytes),i=.int .i64 k∧k≤n∧t=.string ⟨x.toArray⟩∧x.length≤21*k+9∧Hid (x=textOf (wH m k))∧Hid (Fr [] w wr)) (fun _ i _=>n-(intOf i).toNat)
 case atStart=>exact⟨0,textOf (wH m 0),rfl,Nat.zero_le _,by rw[Ev];rfl,by rw[Ev];decide,Lib.hid rfl,Lib.hid (Fr.refl _ _)⟩
 case round =>
  obtain⟨k,x,rfl,hk,rfl,hxl,hx,hf⟩:=hrel
  by_cases hlt:k<n
  ·by_cases hkm:k=m
   ·go_wp2;refine⟨⟨k+1,x++[108,101,116,32,97,32,61,32,49,59,32]++[105,102,32,116,114,117,101,32,123,32],by go_num,by omega,by rw[←mh,←mh],by simp;omega,Lib.hid ?_,hf⟩,by simp[intOf];omega⟩;rw[hx.out,hkm,QU,eT,eT,l7,l7];rfl
   ·go_wp2;refine⟨⟨k+1,x++[105,102,32,116,114,117,101,32,123,32],by go_num,by omega,by rw[←mh],by simp;omega,Lib.hid ?_,hf⟩,by simp[intOf];omega⟩;rw[hx.out,SB _ _ hkm,eT,l7];rfl
  ·obtain rfl:k=n:=by omega
   have hd:((⟨x.toArray⟩:ByteArray)=⟨z.toArray⟩∧m<k∧((m:Int)==(k:Int))=false∧c2=0)∨((⟨x.toArray⟩:ByteArray)++⟨#[108,101,116,32,97,32,61,32,49,59,32]⟩=⟨z.toArray⟩∧k≤m∧((m:Int)==(k:Int))=true∧c2=80):=by
    rcases Nat.lt_or_ge m k with e|e
    ·exact .inl ⟨by rw[hx.out,HZ.out,SC _ _ e],e,by rw[beq_eq_false_iff_ne];omega,hc2' (by omega)⟩
    ·obtain rfl:m=k:=by omega
     refine .inr ⟨?_,Nat.le_refl _,by simp,hc2 rfl⟩;rw[show(⟨#[108,101,116,32,97,32,61,32,49,59,32]⟩:ByteArray)=⟨([108,101,116,32,97,32,61,32,49,59,32]:Bytes).toArray⟩from rfl,mh,hx.out,HZ.out,QV,eT,l7];rfl
   rcases hd with⟨hd,hmk,hmj,rfl⟩|⟨hd,hmk,hmj,rfl⟩
   all_goals clear hc2 hc2'
   all_goals go_wp2
   all_goals try rw[hd]
   all_goals (
    go_loopw [8,9] (fun t i wr=>∃(j:Nat) (y:Bytes),i=.int .i64 j∧j≤k∧t=.string ⟨y.toArray⟩∧y.length≤2*j∧Hid (y=textOf (List.replicate j .end_))∧Hid (Fr [] w wr)) (fun _ i _=>k-(intOf i).toNat)
    case atStart=>exact⟨0,[],rfl,Nat.zero_le _,rfl,by simp,Lib.hid rfl,hf⟩
    case round =>
     clear hf hx hd;obtain⟨j,y,rfl,hj,rfl,hyl,hy,hf⟩:=hrel
     by_cases hjk:j<k
     ·go_wp2;refine⟨⟨j+1,y++[125,32],by go_num,by omega,by rw[←mh],by simp;omega,Lib.hid ?_,hf⟩,by simp[intOf];omega⟩;rw[hy.out,Ew]
     ·obtain rfl:j=k:=by omega
      obtain rfl:y=en:=by rw[hy.out,HE.out]
      clear hy;have hf0:=hf.out;clear hf;by_cases hm0:m=0
      ·have hmb:((m:Int)==0)=true:=by rw[beq_iff_eq];omega
       clear hm0;cases hkb:((j:Int)==0)
       all_goals first|(exfalso;have h1:=beq_eq_false_iff_ne.1 hkb;have h2:=beq_iff_eq.1 hmb;have h3:=beq_iff_eq.1 hmj;omega)|(
        go_wp2_with (first
         | (go_at_call 8;refine(L1 _ (HV.out.fr hf0 (by simp))).mono ?_;rintro e w1 ⟨v1,rfl,_,hf1⟩;have hb1:=au.new w1 #[.int .i64 0,.int .i64 a1] 26;obtain⟨q1,q2,q3,q4⟩:=hb1.rules;clear L1)
         | (go_at_call 8;refine(L2 _ (HV.out.fr ((hf0.trans hf1).alloc _) (by simp))).mono ?_;rintro e w2 ⟨v2,rfl,_,hf2⟩;obtain⟨r1,r2,r3,r4⟩:=(hb1.fr hf2 (by simp)).rules;clear L2)
         | (go_at_call 11;refine(Eu _ (HV.out.fr ((((hf0.trans hf1).alloc _).trans hf2).blk (.inr (hf0.trans hf1).size) _ _) (by simp))).mono ?_;rintro e w3 ⟨rfl,hf3⟩))
        go_ret
        exact⟨rfl,((((hf0.trans hf1).alloc _).trans hf2).blk (.inr (hf0.trans hf1).size) _ _).trans hf3⟩)
      ·have hmb:((m:Int)==0)=false:=by rw[beq_eq_false_iff_ne];omega
       have hkb:((j:Int)==0)=false:=by rw[beq_eq_false_iff_ne];omega
       go_wp2_with (first
        | (go_at_call 8;refine(L1 _ (HV.out.fr hf0 (by simp))).mono ?_;rintro e w1 ⟨v1,rfl,_,hf1⟩;have hb1:=au.new w1 #[.int .i64 0,.int .i64 a1] 26;obtain⟨q1,q2,q3,q4⟩:=hb1.rules;clear L1)
        | (go_at_call 8;refine(L2 _ (HV.out.fr ((hf0.trans hf1).alloc _) (by simp))).mono ?_;rintro e w2 ⟨v2,rfl,_,hf2⟩;obtain⟨r1,r2,r3,r4⟩:=(hb1.fr hf2 (by simp)).rules;clear L2))
       have hF2:=Lib.hid ((((hf0.trans hf1).alloc (.cells #[.int .i64 0,.int .i64 a1] 26)).trans hf2).blk (b:=w1.heap.size) (.inr (hf0.trans hf1).size));have hB2:=fun c=>Lib.hid (au.blk (c:=c) (T:=26) r4)
       have hgl:=(hf0.trans hf1).size;generalize w1.heap.size=b at *;clear hb1 hf1 hf2 q1 q2 q3 q4 r1 r2 r3 r4 hf0
       go_loopw [12,13] (fun t i wr2=>∃(j2:Nat) (y2:Bytes),i=.int .i64 j2∧j2≤j-m+1∧t=.string ⟨y2.toArray⟩∧y2.length≤2*j2∧Hid (y2=textOf (List.replicate j2 .end_))∧Hid (Fr [] w wr2)∧∃c,Hid (au wr2 b c 26)∧c.size=2) (fun _ i _=>j+1-(intOf i).toNat)
       case atStart=>exact⟨0,[],rfl,Nat.zero_le _,rfl,by simp,Lib.hid rfl,Lib.hid (hF2.out _ _),_,hB2 _,rfl⟩
       case round =>
        clear hF2 hB2;obtain⟨j2,y2,rfl,hj2,rfl,afm,hy2,hf2,c,hB,hcs⟩:=hrel
        by_cases hjm:j2<j-m+1
        ·go_wp2;refine⟨⟨j2+1,y2++[125,32],by go_num,by omega,by rw[←mh],by simp;omega,Lib.hid ?_,hf2,c,hB,hcs⟩,by simp[intOf];omega⟩;rw[hy2.out,Ew]
        ·have hje:j2=j-m+1:=by omega
         rw[hje]at hy2
         clear hje;have H3:=QW j m (by omega) (by omega) (by omega);rw[←HZ.out,←hy2.out,←SE]at H3
         obtain⟨a3,ha3⟩:∃a,(kU (z++y2++[111,117,116,32,97,59,32]++xZ (m-1) [125,32]++[125])).2.at'=a:=⟨_,rfl⟩
         have hrl:=IQ (m-1) [125,32];simp only[List.length_cons,List.length_nil]at hrl;have L3:=fun X hX=>sU (z++y2++[111,117,116,32,97,59,32]++xZ (m-1) [125,32]++[125]) X hX (by simp;omega)
         rw[H3,ha3,←mh,←mh,←mh,←mh]at L3
         have TX:=fun X=>QJ [125,32] (m-1) (by simp) (by omega) X
         rw[show((m-1:Nat):Int)=(m:Int)-1 by omega]at TX
         generalize xZ (m-1) [125,32]=rp at *;clear H3 ha3 hy2;have hf0:=hf2.out;have hb0:=hB.out;clear hf2 hB
         go_wp2_with (first
          | (go_at_call 10;refine(TX _).mono ?_;rintro e w3 ⟨rfl,hf3⟩;clear TX)
          | (go_at_call 8;refine(L3 _ (HV.out.fr (hf0.trans hf3) (by simp))).mono ?_;rintro e w4 ⟨v4,rfl,_,eY⟩;obtain⟨r1,r2,r3,r4⟩:=((hb0.fr hf3 (by simp)).fr eY (by simp)).rules;clear L3)
          | (go_at_call 11;refine(Eu _ (HV.out.fr (((hf0.trans hf3).trans eY).blk (.inr hgl) _ _) (by simp))).mono ?_;rintro e w5 ⟨rfl,fF⟩))
         go_ret
         exact⟨rfl,(((hf0.trans hf3).trans eY).blk (.inr hgl) _ _).trans fF⟩)
theorem K8 (d a:Int) (w:World) (hV:Vars w) :
  Calls Tryz.prog 5 #[.int .i64 d,.int .i64 a] w fun e w'=>e=.returned (.bool true)∧Fr [] w w':=by
 by_cases hg:0≤d∧d≤40∧0≤a∧a≤d
 ·have h:=NQ d.toNat a.toNat (by omega) (by omega) w hV;rw[show((d.toNat:Nat):Int)=d by omega,show((a.toNat:Nat):Int)=a by omega]at h
  exact h
 ·exact K7 d a hg w
end Go.Proofs.YtoomapkcoibmhaaGreatDoor
end
