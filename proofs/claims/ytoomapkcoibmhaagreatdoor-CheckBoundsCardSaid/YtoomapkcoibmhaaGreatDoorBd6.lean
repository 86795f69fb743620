/- A part of the proof. -/
import Derived.Test.YtoomapkcoibmhaaGreatDoorBd2
import Derived.Test.YtoomapkcoibmhaaGreatDoorBd3
import Derived.Test.YtoomapkcoibmhaaGreatDoorBd4
import Derived.Test.YtoomapkcoibmhaaGreatDoorBd5
set_option maxRecDepth 100000
set_option maxHeartbeats 12800000
set_option linter.all false
section
namespace Ck
theorem ahY {p:Nat→Prop} (h:p 0) (a:Nat) (ha:a≤0):p a:=by
 obtain rfl:a=0:=by omega
 exact h
theorem upB {p:Nat→Prop} {n:Nat} (h:∀a,a≤n→p a) (h1:p (n+1)) (a:Nat) (ha:a≤n+1):p a:=by
 by_cases e:a=n+1
 ·subst e;exact h1
 ·exact h a (by omega)
theorem agc:∀n,n≤70→aae n=true:=by
 refine upB (n:=69) ?_ ahX;refine upB (n:=68) ?_ ahW;refine upB (n:=67) ?_ ahV;refine upB (n:=66) ?_ ahU;refine upB (n:=65) ?_ ahT;refine upB (n:=64) ?_ ahS;refine upB (n:=63) ?_ ahR;refine upB (n:=62) ?_ ahQ;refine upB (n:=61) ?_ ahP;refine upB (n:=60) ?_ ahO;refine upB (n:=59) ?_ ahN;refine upB (n:=58) ?_ ahM;refine upB (n:=57) ?_ ahL;refine upB (n:=56) ?_ ahK;refine upB (n:=55) ?_ ahJ;refine upB (n:=54) ?_ ahI;refine upB (n:=53) ?_ ahH;refine upB (n:=52) ?_ ahG;refine upB (n:=51) ?_ ahF;refine upB (n:=50) ?_ ahE;refine upB (n:=49) ?_ ahD;refine upB (n:=48) ?_ ahC;refine upB (n:=47) ?_ ahB;refine upB (n:=46) ?_ ahA;refine upB (n:=45) ?_ ahz;refine upB (n:=44) ?_ ahy;refine upB (n:=43) ?_ ahx;refine upB (n:=42) ?_ ahw;refine upB (n:=41) ?_ ahv;refine upB (n:=40) ?_ ahu;refine upB (n:=39) ?_ aht;refine upB (n:=38) ?_ ahs;refine upB (n:=37) ?_ ahr;refine upB (n:=36) ?_ ahq;refine upB (n:=35) ?_ ahp;refine upB (n:=34) ?_ aho;refine upB (n:=33) ?_ ahn;refine upB (n:=32) ?_ ahm;refine upB (n:=31) ?_ ahl;refine upB (n:=30) ?_ ahk;refine upB (n:=29) ?_ ahj;refine upB (n:=28) ?_ ahi;refine upB (n:=27) ?_ ahh;refine upB (n:=26) ?_ ahg;refine upB (n:=25) ?_ ahf;refine upB (n:=24) ?_ ahe;refine upB (n:=23) ?_ ahc;refine upB (n:=22) ?_ ahb;refine upB (n:=21) ?_ aha;refine upB (n:=20) ?_ ag9;refine upB (n:=19) ?_ ag8;refine upB (n:=18) ?_ ag7;refine upB (n:=17) ?_ ag6;refine upB (n:=16) ?_ ag5;refine upB (n:=15) ?_ ag4;refine upB (n:=14) ?_ ag3;refine upB (n:=13) ?_ ag2;refine upB (n:=12) ?_ ag1;refine upB (n:=11) ?_ ag0;refine upB (n:=10) ?_ agZ;refine upB (n:=9) ?_ agY;refine upB (n:=8) ?_ bd9;refine upB (n:=7) ?_ bd8;refine upB (n:=6) ?_ bd7;refine upB (n:=5) ?_ bd6;refine upB (n:=4) ?_ bd5;refine upB (n:=3) ?_ bd4;refine upB (n:=2) ?_ bd3;refine upB (n:=1) ?_ bd2;refine upB (n:=0) ?_ bd1;exact ahY bd0
theorem afi {a b:dS} (h:(a==b)=true):a=b:=eq_of_beq h
theorem adj:∀f n:Nat,(acX f n).length≤f
 | 0,_=>Nat.le_refl _
 | f+1,n=>by
  unfold acX;split
  ·simp
  ·have:=adj f (n/10)
   simp;omega
theorem aaR (n:Nat):(dig n).length≤5:=by
 unfold dig;split
 ·simp
 ·exact adj 5 n
theorem aa8 (f:Nat→Bytes) (m:Nat) (hf:∀i,(f i).length≤m):∀n,(upL f n).length≤m*n
 | 0=>Nat.le_refl _
 | n+1=>by
  have h1:=aa8 f m hf n;have h2:=hf n;simp only[upL,List.length_append,Nat.mul_add,Nat.mul_one];omega
def f1 (i:Nat):Bytes:=[111,117,116,32]++dig i++[59,32]
def f2 (i:Nat):Bytes:=[108,101,116,32,118]++dig i++[32,61,32,110,105,108,59,32]
def f4 (i:Nat):Bytes:=(if i==0 then[] else[44,32])++[112]++dig i
theorem afj (i:Nat):(f1 i).length≤20:=by have:=aaR i;simp[f1];omega
theorem afk (i:Nat):(f2 i).length≤20:=by have:=aaR i;simp[f2];omega
theorem adP (i:Nat):(f4 i).length≤20:=by have:=aaR i;unfold f4;split<;>simp<;>omega
theorem afl (n:Nat):bt1 n=bFn++upL f1 n++[125]:=rfl
theorem afn (n:Nat):bt2 n=bFn++upL f2 n++[125]:=rfl
theorem afo (n:Nat):bt4 n=[102,110,32,102,40]++upL f4 n++[41,32,123,32,125]:=rfl
theorem afp (n:Nat) (hn:n≤70) :
  (n≤64→(kU (bt1 n)).2.code=0)∧(64<n→(kU (bt1 n)).2=⟨84,3⟩) ∧
  (n≤64→∃T,yg (bt2 n)=some T∧bC T false=⟨0,0⟩∧regs T [102]=n)∧(64<n→(kU (bt2 n)).2.code=83) ∧
  (n≤16→(kU (bt4 n)).2.code=0)∧(16<n→(kU (bt4 n)).2.code=81) ∧
  (n≤63→(kU (bt5 n)).2.code=0)∧(63<n→(kU (bt5 n)).2.code=71):=by
 have h:=agc n hn;unfold aae at h;simp only[Bool.and_eq_true]at h;obtain⟨⟨⟨h1,h2⟩,h4⟩,h5⟩:=h
 refine⟨fun e=>?_,fun e=>?_,fun e=>?_,fun e=>?_,fun e=>?_,fun e=>?_,fun e=>?_,fun e=>?_⟩
 ·rw[if_pos e]at h1;exact eq_of_beq h1
 ·rw[if_neg (by omega)]at h1;exact afi h1
 ·rw[if_pos e]at h2
  cases ht:yg (bt2 n) with
  | none=>rw[ht]at h2;cases h2
  | some T =>
   rw[ht]at h2
   simp only[Bool.and_eq_true]at h2;exact⟨T,rfl,afi h2.1,eq_of_beq h2.2⟩
 ·rw[if_neg (by omega)]at h2;exact eq_of_beq h2
 ·rw[if_pos e]at h4;exact eq_of_beq h4
 ·rw[if_neg (by omega)]at h4;exact eq_of_beq h4
 ·rw[if_pos e]at h5;exact eq_of_beq h5
 ·rw[if_neg (by omega)]at h5;exact eq_of_beq h5
theorem afq {s:Bytes} {T:Tree} (h:yg s=some T):T.row.length≤65538:=by
 unfold yg at h;cases hp:fU (aM s).2 (fuel s) (iM (aM s).1 0) with
 | none=>rw[hp]at h;cases h
 | some r =>
  rw[hp]at h
  cases r with
  | error f=>cases h
  | ok p =>
   obtain⟨T',ts⟩:=p
   obtain rfl:T'=T:=by injection h
   have h1:=FP _ _ _ _ _ hp;have h2:=qV s;rw[xP]at h1;omega
end Ck
end
