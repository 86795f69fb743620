/- A part of the proof. -/
import Derived.Test.YtoomapkcoibmhaaGreatDoorQ34
import Derived.Test.YtoomapkcoibmhaaGreatDoorQ38
import Derived.Test.YtoomapkcoibmhaaGreatDoorQ39
import Derived.Test.YtoomapkcoibmhaaGreatDoorQ40
import Derived.Test.YtoomapkcoibmhaaGreatDoorQ41
import Derived.Test.YtoomapkcoibmhaaGreatDoorQ42
import Derived.Test.YtoomapkcoibmhaaGreatDoorQ43
import Derived.Test.YtoomapkcoibmhaaGreatDoorQ44
set_option maxRecDepth 100000
set_option maxHeartbeats 12800000
set_option linter.all false
section
open Go Go.Proofs Go.RowKit Go.Shelf Go.Maps Ck
namespace Go.Proofs.YtoomapkcoibmhaaGreatDoor
theorem kf {x a b:Int} (h:(x==a)=true) (hab:(a==b)=false):(x==b)=false:=by
 rw[eq_of_beq h];exact hab
theorem Ir (S:lH):∀N,rR S N
 | 0=>by
  intro T rest i d k B s ms w hs;obtain⟨n,ks⟩:=T
  simp[Tree.size]at hs
 | N+1=>by
  have ih:=Ir S N;intro T rest i d k B s ms w hs hT hA hms hb hB hsc hlp hd hkk hK;obtain⟨n,ks⟩:=T
  have hsh:sK n ks:=hA.1;have e2:(n.kind==2)=false:=(Bool.or_eq_false_iff.1 hsh.1).1;have e3:(n.kind==3)=false:=(Bool.or_eq_false_iff.1 hsh.1).2;cases h:(n.kind==4) with
  | true=>exact Nj ih n ks rest i d k B s ms w hs hT hA hms hb hB hsc hlp hd hkk hK  (kf h rfl) (kf h rfl) (h) (kf h rfl) (kf h rfl) (kf h rfl) (kf h rfl) (kf h rfl) (kf h rfl) (kf h rfl) (kf h rfl) (kf h rfl) (kf h rfl)
  | false =>
  have e4:=h;clear h;cases h:(n.kind==5) with
  | true=>exact Nh ih n ks rest i d k B s ms w hs hT hA hms hb hB hsc hlp hd hkk hK  (kf h rfl) (kf h rfl) (kf h rfl) (h) (kf h rfl) (kf h rfl) (kf h rfl) (kf h rfl) (kf h rfl) (kf h rfl) (kf h rfl) (kf h rfl) (kf h rfl)
  | false =>
  have e5:=h;clear h;cases h:(n.kind==6) with
  | true=>exact Nk ih n ks rest i d k B s ms w hs hT hA hms hb hB hsc hlp hd hkk hK  (kf h rfl) (kf h rfl) (kf h rfl) (kf h rfl) (h) (kf h rfl) (kf h rfl) (kf h rfl) (kf h rfl) (kf h rfl) (kf h rfl) (kf h rfl) (kf h rfl)
  | false =>
  have e6:=h;clear h;cases h:(n.kind==12) with
  | true=>exact Kt ih n ks rest i d k B s ms w hs hT hA hms hb hB hsc hlp hd hkk hK  (kf h rfl) (kf h rfl) (kf h rfl) (kf h rfl) (kf h rfl) (kf h rfl) (kf h rfl) (h) (kf h rfl) (kf h rfl) (kf h rfl) (kf h rfl) (kf h rfl)
  | false =>
  have e12:=h;clear h;cases h:(n.kind==25) with
  | true=>exact Ku ih n ks rest i d k B s ms w hs hT hA hms hb hB hsc hlp hd hkk hK  (kf h rfl) (kf h rfl) (kf h rfl) (kf h rfl) (kf h rfl) (kf h rfl) (kf h rfl) (kf h rfl) (h) (kf h rfl) (kf h rfl) (kf h rfl) (kf h rfl)
  | false =>
  have e25:=h;clear h;cases h:(n.kind==7) with
  | true=>exact Ni ih n ks rest i d k B s ms w hs hT hA hms hb hB hsc hlp hd hkk hK  (kf h rfl) (kf h rfl) (kf h rfl) (kf h rfl) (kf h rfl) (kf h rfl) (kf h rfl) (kf h rfl) (kf h rfl) (h) (kf h rfl) (kf h rfl) (kf h rfl)
  | false =>
  have e7:=h;clear h;cases h:(n.kind==23) with
  | true=>exact KA ih n ks rest i d k B s ms w hs hT hA hms hb hB hsc hlp hd hkk hK  (kf h rfl) (kf h rfl) (kf h rfl) (kf h rfl) (kf h rfl) (kf h rfl) (kf h rfl) (kf h rfl) (kf h rfl) (kf h rfl) (h) (kf h rfl) (kf h rfl)
  | false =>
  have e23:=h;clear h;cases h:(n.kind==13) with
  | true=>exact Bw ih n ks rest i d k B s ms w hs hT hA hms hb hB hsc hlp hd hkk hK (.inl (by simpa using h))
  | false =>
  have e13:=h;clear h;cases h:(n.kind==14) with
  | true=>exact Bw ih n ks rest i d k B s ms w hs hT hA hms hb hB hsc hlp hd hkk hK (.inr (by simpa using h))
  | false =>
  have e14:=h;clear h;cases h:(n.kind==10) with
  | true =>
   by_cases hx:n.text=[]
   ·exact KD ih n ks rest i d k B s ms w hs hT hA hms hb hB hsc hlp hd hkk hK (Lib.hid hx) (kf h rfl) (kf h rfl) (kf h rfl) (kf h rfl) (kf h rfl) (h) (kf h rfl) (kf h rfl) (kf h rfl) (kf h rfl) (kf h rfl) (kf h rfl) (kf h rfl)
   ·exact Ii ih n ks rest i d k B s ms w hs hT hA hms hb hB hsc hlp hd hkk hK hx (kf h rfl) (kf h rfl) (kf h rfl) (kf h rfl) (kf h rfl) (h) (kf h rfl) (kf h rfl) (kf h rfl) (kf h rfl) (kf h rfl) (kf h rfl) (kf h rfl)
  | false =>
  have e10:=h;clear h;cases h:(n.kind==11) with
  | true =>
   by_cases hx:ks.length=4
   ·obtain⟨tl,lt,htl,hlt⟩:∃tl lt,ks[0]? = some tl∧tl.n.text=lt:=⟨ks[0]'(by omega),(ks[0]'(by omega)).n.text,List.getElem?_eq_getElem _,rfl⟩
    exact Iq ih n ks rest i d k B s ms w hs hT hA hms hb hB hsc hlp hd hkk hK (Lib.hid hx) tl lt htl hlt (kf h rfl) (kf h rfl) (kf h rfl) (kf h rfl) (kf h rfl) (kf h rfl) (h) (kf h rfl) (kf h rfl) (kf h rfl) (kf h rfl) (kf h rfl) (kf h rfl)
   ·exact Io ih n ks rest i d k B s ms w hs hT hA hms hb hB hsc hlp hd hkk hK (Lib.hid hx) (kf h rfl) (kf h rfl) (kf h rfl) (kf h rfl) (kf h rfl) (kf h rfl) (h) (kf h rfl) (kf h rfl) (kf h rfl) (kf h rfl) (kf h rfl) (kf h rfl)
  | false =>
  have e11:=h;clear h;exact Ng ih n ks rest i d k B s ms w hs hT hA hms hb hB hsc hlp hd hkk hK e2 e3 e4 e5 e6 e10 e11 e12 e25 e7 e23 e13 e14
theorem Sc (S:lH) (N:Nat) (Ik:S.R.length≤S.c∧S.c≤maxLen):FV S N:=by
 intro T rest i d k B s ms w hs hT abV hb hB hsc hlp hd hkk hK;obtain⟨n,ks⟩:=T
 obtain⟨hk,hA,Il,hkey⟩:=abV
 have ih:=Ir S ((Tree.mk n ks).size);have hk:n.kind=2∨n.kind=3:=hk;rcases hk with hk|hk
 ·have h:(n.kind==2)=true:=beq_iff_eq.2 hk;exact KL ih n ks rest i d k B s ms w (Nat.le_succ _) hT hA Ik hb hB (by simp[hsc]) (by simp[hlp]) hd hkk Il hK (h) (kf h rfl) (kf h rfl) (kf h rfl) (kf h rfl) (kf h rfl) (kf h rfl) (kf h rfl) (kf h rfl) (kf h rfl) (kf h rfl) (kf h rfl) (kf h rfl)
 ·have h:(n.kind==3)=true:=beq_iff_eq.2 hk;exact KJ ih n ks rest i d k B s ms w (Nat.le_succ _) hT hA Ik hb hB (by simp[hsc]) (by simp[hlp]) hd hkk Il hkey hK (kf h rfl) (h) (kf h rfl) (kf h rfl) (kf h rfl) (kf h rfl) (kf h rfl) (kf h rfl) (kf h rfl) (kf h rfl) (kf h rfl) (kf h rfl) (kf h rfl)
end Go.Proofs.YtoomapkcoibmhaaGreatDoor
end
section
open Go Go.Proofs Go.RowKit Go.Shelf Go.Maps Go.Sort Ck
namespace Go.Proofs.YtoomapkcoibmhaaGreatDoor
theorem UD:∀(S:lH) (N:Nat),(S.R.length≤S.c∧S.c≤maxLen)→FV S N:=fun S N h=>Sc S N h
theorem sU (s:Bytes) (w:World) (hV:Vars w) (hs:s.length≤140737488351232) :
  Calls Tryz.prog 8 #[.string ⟨s.toArray⟩] w fun e w'=>∃v,e=.returned (.tuple #[v,.agg #[.int .i64 (kU s).2.code,.int .i64 (kU s).2.at']])∧w'.ownsRow w.heap.size 40 6 v (kU s).1.length (kY (kU s).1)∧Fr [] w w':=Qp UD s w hV hs
end Go.Proofs.YtoomapkcoibmhaaGreatDoor
end
