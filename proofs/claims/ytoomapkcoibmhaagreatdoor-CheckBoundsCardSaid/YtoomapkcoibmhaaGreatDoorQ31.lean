/- A part of the proof. -/
import Derived.Test.YtoomapkcoibmhaaGreatDoorQ30
set_option maxRecDepth 100000
set_option maxHeartbeats 12800000
set_option linter.all false
section
open Go Go.Proofs Go.RowKit Go.Shelf Go.Maps Ck
namespace Go.Proofs.YtoomapkcoibmhaaGreatDoor
attribute [local go_sem] Oper.semAt_some
theorem Kn (S:lH) (hlim:S.R.length≤1099511627776):∀N,Ht S N:=by
 intro N
 induction N with
 | zero =>
  intro T rest i h w hs
  have:=size_pos T
  omega
 | succ N ih =>
  intro T rest i h w hs hT hA hh hw;obtain⟨n,ks⟩:=T
  cases h5:(n.kind==5) with
  | true=>exact Hu ih n ks rest i h w hs hT hA hh hlim hw h5
  | false =>
   cases h11:(n.kind==11) with
   | true=>exact Di ih n ks rest i h w hs hT hA hh hlim hw h5 h11
   | false =>
    by_cases c1:n.kind=21∨n.kind=24∨n.kind=23
    ·exact FH ih n ks rest i h w hs hT hA hh hlim hw c1
    by_cases c2:n.kind=8
    ·exact FI ih n ks rest i h w hs hT hA hh hlim hw c2
    by_cases c3:n.kind=18∨n.kind=19∨n.kind=20∨n.kind=22∨n.kind=25∨n.kind=26∨n.kind=27∨n.kind=28∨n.kind=29∨n.kind=30∨n.kind=31
    ·exact FJ ih n ks rest i h w hs hT hA hh hlim hw c3
    simp only[not_or]at c1 c3;exact FK ih n ks rest i h w hs hT hA hh hlim hw h5 h11 (beq_false_of_ne c1.1) (beq_false_of_ne c1.2.1) (beq_false_of_ne c1.2.2) (beq_false_of_ne c2) (beq_false_of_ne c3.1) (beq_false_of_ne c3.2.1) (beq_false_of_ne c3.2.2.1) (beq_false_of_ne c3.2.2.2.1) (beq_false_of_ne c3.2.2.2.2.1) (beq_false_of_ne c3.2.2.2.2.2.1) (beq_false_of_ne c3.2.2.2.2.2.2.1) (beq_false_of_ne c3.2.2.2.2.2.2.2.1) (beq_false_of_ne c3.2.2.2.2.2.2.2.2.1) (beq_false_of_ne c3.2.2.2.2.2.2.2.2.2.1) (beq_false_of_ne c3.2.2.2.2.2.2.2.2.2.2) hA.1.2
theorem uo (S:lH) (hlim:S.R.length≤1099511627776) (n:Ck.Node) (ks:List Tree) (rest:List Ck.Node) (i:Nat) (w:World) (hT:S.R.drop i=(Tree.mk n ks).row++rest) (hA:(Tree.mk n ks).all Three) (hk:ks≠[]) (hh:6*(Tree.mk n ks).size≤1000000000000000) (hw:HW S w) :
  Calls Tryz.prog 19 #[.pointer (some ⟨S.bp,0,none⟩),.int .i64 i] w fun e w'=>e=.returned (.int .i64 (registers (Tree.mk n ks):Nat))∧Fr [] w w':=by
 obtain⟨k,hkk⟩:∃k,ks.length=k+1:=⟨ks.length-1,by have:=List.length_pos_iff.2 hk;omega⟩
 obtain⟨t,ht⟩:∃t,ks[k]? = some t:=⟨_,List.getElem?_eq_getElem (by omega)⟩
 have hgoal:registers (Tree.mk n ks)=max k (t.height k):=by
  unfold registers;simp only[Tree.ks];rw[List.getLast?_eq_getElem?,hkk];simp[ht]
 obtain⟨cs,hb,hcs⟩:=hw.oP
 obtain⟨hrow,aD⟩:=bJ hT
 obtain⟨p,rest',hp,wS⟩:=jO hrow ht
 have hs:=jH ht;have hkl:ks.length≤sizes ks:=by rw[←bP];exact eZ ks
 have o9:(Tree.mk n ks).size=sizes ks+1:=by simp[Tree.size]
 have hkb:(k:Int)≤1000000000000000:=by omega
 have At:t.all Three:=dN hA.2 t (List.mem_of_getElem? ht);have hle:=fC t k;have jZ:=dM S.bp S.R rest i S.g S.c n ks hT hlim w hw.row cs hb hcs;have HW0:=Lib.hid hw;have HP:=Lib.hid hp;have HT:=Lib.hid wS;have HA:=Lib.hid At;have HG:=Lib.hid hgoal;clear hw hp wS At hgoal hb hcs hT hA hrow aD ht;go_enter Tryz.func19,Tryz.ntmps19
 go_wp2_with (fail)
 go_at_call 31
 refine jZ.mono ?_;rintro e w1 ⟨v,rfl,hown,hf1⟩;rw[hkk]at hown
 obtain⟨g',Kk,hv,hgb,hgl⟩:=hown.form (by omega)
 obtain rfl:=hv
 have ca:w1.cell? ⟨g',k,none⟩=some (.int .i64 (p:Int)):=by
  rw[hown.cellAt k (by omega)];simp[gM,HP.out]
 go_wp2_with (fail)
 go_at_call 32
 refine(Kn S hlim t.size t rest' p k w1 (Nat.le_refl _) HT.out HA.out (by omega) (HW0.out.fr hf1 (by simp) (by simp))).mono ?_
 rintro e w2 ⟨rfl,hf2⟩;have hG:=HG.out;generalize t.height k=q at *;go_wp2;go_ret;exact⟨by rw[hG];first|rfl|(show Ending.returned (Value.int .i64 (max (k:Int) (q:Int)))=_;congr 2;omega),hf1.trans hf2⟩
theorem zx (S:lH) (hlim:S.R.length≤1099511627776) (n:Ck.Node) (T:Tree) (rest:List Ck.Node) (i nb b9 b4 b5:Nat) (w:World) (hT:S.R.drop i=T.row++rest) (hw:HW S w)
  (hn:au w nb #[.int .i64 n.kind,.int .i64 n.at',.int .i64 n.kids,.string ⟨n.text.toArray⟩,.int .i64 n.int,.int .u64 n.bits] 40)
  (h9:au w b9 #[.func (.func 50) #[] #[.pointer (some ⟨nb,0,none⟩)]] 97) (h4:au w b4 #[.pointer (some ⟨S.bp,0,none⟩)] 45) (h5:au w b5 #[.int .i64 (i:Int)] 3) (hil:(i:Int)≤1099511627776) :
  Calls Tryz.prog 52 #[.pointer (some ⟨b9,0,none⟩),.pointer (some ⟨b4,0,none⟩),.pointer (some ⟨b5,0,none⟩)] w fun e w'=>(1000<T.size∧e=Db ⟨85,n.at'⟩∧Fr [] w w')∨(¬1000<T.size∧e=.returned (.tuple #[])∧Fr [] w w'):=by
 obtain⟨cs,hb,hcs⟩:=hw.oP
 have Ec:=G7 S.bp S.R rest i S.g S.c T hT hlim w.drew (hw.row.fr (Fr.refl [] _).drew (by simp)) cs hb hcs;have hsz:=kg T
 have WB:i+T.row.length≤S.R.length:=by
  have:=congrArg List.length hT
  rw[List.length_drop,List.length_append]at this
  have:=size_pos T
  omega
 obtain⟨c9,z9,s9,l9⟩:=h9.rules
 obtain⟨c4,z4,s4,l4⟩:=h4.rules
 obtain⟨c5,z5,s5,l5⟩:=h5.rules
 rw[hsz]at Ec WB
 generalize T.size=z at *;have HL:=Lib.hid hlim;have hzl:(z:Int)≤1099511627776:=by omega
 clear hT hw hb hcs hlim;go_enter Tryz.func52,Tryz.ntmps52;go_wp2;have hS:(fun X:World=>X.cell? ⟨b9,0,none⟩=some (.func (.func 50) #[] #[.pointer (some ⟨nb,0,none⟩)])∧X.cell? ⟨b4,0,none⟩=some (.pointer (some ⟨S.bp,0,none⟩))∧X.cell? ⟨b5,0,none⟩=some (.int .i64 (i:Int))) w.drew:=⟨by show w.cell? _=_;rw[c9];rfl,by show w.cell? _=_;rw[c4];rfl,by show w.cell? _=_;rw[c5];rfl⟩
 refine wp_region_held (S:=fun X:World=>X.cell? ⟨b9,0,none⟩=some (.func (.func 50) #[] #[.pointer (some ⟨nb,0,none⟩)])∧X.cell? ⟨b4,0,none⟩=some (.pointer (some ⟨S.bp,0,none⟩))∧X.cell? ⟨b5,0,none⟩=some (.int .i64 (i:Int))) (by kernel_rfl) ?_;refine tk 0 (.func (.func 50) #[] #[.pointer (some ⟨nb,0,none⟩)]) rfl hS (fun X hX=>?_) ?_
 ·obtain⟨hX1,hX2,fP⟩:=hX;go_simp
 simp only[Act.put,acts];refine tk 1 (.pointer (some ⟨S.bp,0,none⟩)) rfl hS (fun X hX=>?_) ?_
 ·obtain⟨hX1,hX2,fP⟩:=hX;go_simp
 simp only[Act.put,acts];refine tk 2 (.int .i64 (i:Int)) rfl hS (fun X hX=>?_) ?_
 ·obtain⟨hX1,hX2,fP⟩:=hX;go_simp
 simp only[Act.put,acts];refine tk 4 (.int .i64 (i:Int)) rfl hS (fun X hX=>?_) ?_
 ·obtain⟨hX1,hX2,fP⟩:=hX;go_simp
 simp only[Act.put,acts];refine wpAnyH_all (rs:=[3]) (by kernel_rfl) (by simp) ?_;intro i2 hi2;obtain rfl:i2=3:=by simpa using hi2
 refine wpOp_step rfl (fun K hK=>?_);rw[if_pos (by rfl)];go_simp;refine Ec.mono ?_;rintro e w1 ⟨rfl,rfl⟩;refine hK _ _ ⟨hS,?_⟩;refine tk 5 (.int .i64 (z:Int)) rfl hS (fun X hX=>?_) ?_
 ·go_simp;first|done|go_num|(rw[IntWalk.i64_in _ (by omega)];omega)|(rw[Go.IntWalk.i64_in _ (by omega)];omega)
 simp only[Act.put,acts];refine tk 6 (.bool (decide (1000<z))) rfl hS (fun X hX=>?_) ?_
 ·go_simp;try omega
 simp only[Act.put,acts];refine wpAnyH_all (rs:=[7]) (by kernel_rfl) (by simp) ?_;intro i2 hi2;obtain rfl:i2=7:=by simpa using hi2
 refine wpOp_step rfl (fun K hK=>?_);rw[if_pos (by rfl)];go_simp;refine(jG _ _ nb n w.drew hn).mono ?_
 rintro e w2 (⟨hb1,rfl,rfl⟩|⟨hb1,rfl,rfl⟩)
 ·exact⟨rfl,.inl ⟨by simpa using hb1,rfl,(Fr.refl _ _).drew⟩⟩
 ·refine hK _ _ ⟨hS,wpAnyH_done (by kernel_rfl) ?_ _⟩;go_wp2
  go_end0
  exact .inr ⟨by simpa using hb1,rfl,(Fr.refl _ _).drew⟩
def sK (n:Ck.Node) (ks:List Tree):Prop:=Body n ks∧Three n ks∧(n.kind=10→ks.length=2)∧n.kind≠1
abbrev rR (S:lH) (N:Nat):Prop:=∀(T:Tree) (rest:List Ck.Node) (i d k B:Nat) (s:CS) (ms:List Nat) (w:World),T.size≤N→S.R.drop i=T.row++rest→T.all sK→ms≠[]→Bd s B→B+T.size≤1099511627776→s.scopes.length≤d→s.loops.length≤d→d≤257→k≤1099511627776→CK S s ms w →
 Calls Tryz.prog 29 #[.pointer (some ⟨S.bp,0,none⟩),.int .i64 i,.int .i64 d,.int .i64 k] w (iq S ms w (jg S.E T d k s))
mutual
theorem mI {P Q:Ck.Node→List Tree→Prop} (h:∀n ks,P n ks→Q n ks):∀(T:Tree),T.all P→T.all Q
 | .mk n ks,ha=>⟨h n ks ha.1,oG h ks ha.2⟩
theorem oG {P Q:Ck.Node→List Tree→Prop} (h:∀n ks,P n ks→Q n ks):∀(l:List Tree),oH P l→oH Q l
 | [],_=>trivial
 | t::l,ha=>⟨mI h t ha.1,oG h l ha.2⟩
end
theorem qg:∀(ks:List Tree) (q:Nat),sizes (ks.take q)≤sizes ks
 | [],q=>by simp
 | t::ks,0=>by simp[sizes]
 | t::ks,q+1=>by have:=qg ks q;simp[sizes];omega
theorem Bj {ks:List Tree} {q:Nat} {t:Tree} (h:ks[q]? = some t):sizes (ks.take (q+1))=sizes (ks.take q)+t.size:=by
 induction ks generalizing q with
 | nil=>cases h
 | cons a ks ih =>
  cases q with
  | zero =>
   obtain rfl:a=t:=by simpa using h
   simp[sizes]
  | succ q =>
   have:=ih (q:=q) (by simpa using h)
   simp[sizes,this];omega
section
variable {S:lH} {N:Nat}
theorem Bn (ih:rR S N) (ks:List Tree) (rest:List Ck.Node) (p d B:Nat) (s:CS) (ms:List Nat) (w:World) (g' sc b4 b6:Nat) (sa:Option Addr) (cur:Array Value)
  (hs:sizes ks≤N) (hT:S.R.drop p=rows ks++rest) (hA:oH sK ks) (hms:ms≠[]) (hb:Bd s B) (h1:s.scopes.length≤d+1) (h2:s.loops.length≤d+1) (hd:d+1≤257) (hK:CK S s ms w) (hpl:B+sizes ks≤1099511627776)
  (hg:au w g' cur 3) (hc:∀(j q:Nat),(kpos p ks)[j]? = some q→cur[j]? = some (Value.int .i64 (q:Int))) (hsa:ks≠[]→sa=some ⟨g',0,none⟩)
  (h4:au w b4 #[.pointer (some ⟨S.bp,0,none⟩)] 45) (h6:au w b6 #[.int .i64 (d:Int)] 3) :
  Calls Tryz.prog 51 #[.slice sa ks.length sc,.pointer (some ⟨b4,0,none⟩),.pointer (some ⟨b6,0,none⟩)] w (iq S ms w (gu S.E ks (d+1) 0 s)):=by
 obtain⟨r,hr⟩:∃r,Hid (gu S.E ks (d+1) 0 s=r):=⟨_,rfl⟩
 rw[hr.out]
 have hl:(ks.length:Int)≤1099511627776:=by
  have:=eZ ks
  have h4:=bP ks;omega
 have hml:=hK.sets.length;obtain⟨kc,kz,aH,kb⟩:=h4.rules
 go_enter Tryz.func51,Tryz.ntmps51;have HC:=Lib.hid hc;have HA:=Lib.hid hA;have HT:=Lib.hid hT;have HSA:=Lib.hid hsa;have dz:Hid (∃s',CK S s' ms w∧Ct w w∧Bd s' (B+sizes (ks.take 0))∧s'.scopes.length=s.scopes.length∧s'.loops.length=s.loops.length∧gu S.E (ks.drop 0) (d+1) 0 s'=r):=⟨s,hK,Ct.refl _,by simpa[sizes]using hb,rfl,rfl,by simpa using hr.out⟩
 clear hK hb hc hA hT hsa;go_wp2
 go_loopw [4,5,8] (fun _x _y j wr=>∃q:Nat,j=.int .i64 q∧q≤ks.length∧Hid (∃s',CK S s' ms wr∧Ct w wr∧Bd s' (B+sizes (ks.take q))∧s'.scopes.length=s.scopes.length∧s'.loops.length=s.loops.length∧gu S.E (ks.drop q) (d+1) q s'=r)) (fun _ _ j _=>ks.length-(intOf j).toNat)
 case atStart=>exact⟨0,rfl,Nat.zero_le _,dz⟩
 case round =>
  obtain⟨q,rfl,hq1,hq⟩:=hrel
  obtain⟨s',k1,k2,k3,k4,k5,k6⟩:=hq.out
  clear hq;by_cases hlt:q<ks.length
  ·obtain⟨t,ht⟩:∃t,ks[q]? = some t:=⟨_,List.getElem?_eq_getElem hlt⟩
   have hsplit:ks.drop q=t::ks.drop (q+1):=by
    rw[List.drop_eq_getElem_cons hlt];rw[List.getElem?_eq_getElem hlt]at ht
    rw[Option.some.inj ht]
   obtain⟨p',rest',hp,wS⟩:=jO HT.out ht
   obtain rfl:=HSA.out (by rintro rfl;simp at hlt);have hgr:=k2.kept g' cur _ (by decide) (by decide) (by decide) hg;have hcell:wr.cell? ⟨g',q,none⟩=some (.int .i64 (p':Int)):=(hgr.rules.1 q).trans (HC.out q p' hp);have h4r:=k2.kept b4 _ _ (by decide) (by decide) (by decide) h4;have h6r:=k2.kept b6 _ _ (by decide) (by decide) (by decide) h6;obtain⟨xc,xz,Nc,xb⟩:=h4r.rules
   obtain⟨yc,yz,wm,yb⟩:=h6r.rules
   rw[hsplit]at k6
   unfold gu at k6;have hst:=Bj ht;have hsa:=jH ht;have hle:=qg ks (q+1);have Cx:t.all sK:=dN HA.out t (List.mem_of_getElem? ht);have hcall:=ih t rest' p' (d+1) q (B+sizes (ks.take q)) s' ms wr (by omega) wS Cx hms k3 (by omega) (by omega) (by omega) hd (by omega) k1;have HKK:=Lib.hid (And.intro k3 (And.intro k4 (And.intro k5 (And.intro k6 k2))));have HA2:=Lib.hid Cx;have HST:=Lib.hid hst;have HTt:=Lib.hid ht;clear k1 k3 k4 k5 k6 hsplit hp wS Cx hst
   go_wp2_with (fail)
   go_at_call 29
   refine hcall.mono ?_;rintro e w5 (⟨f,hf,rfl,hlow⟩|⟨s2,hf,rfl,K2,C2⟩)
   ·exact⟨rfl,.inl ⟨f,by rw[←HKK.out.2.2.2.1,hf];rfl,rfl,hlow⟩⟩
   ·go_wp2
    go_roundw
    case rel =>
     refine⟨q+1,by go_num,by omega,s2,K2,HKK.out.2.2.2.2.trans C2,?_,?_,?_,?_⟩
     ·have:=(nC S.E t (d+1) q _ s' s2 (mI (fun _ _ h=>h.1) t HA2.out) HKK.out.1 hf).1
      rw[HST.out,←Nat.add_assoc];exact this
     ·rw[←K2.sets.length];exact hml
     ·rw[(nC S.E t (d+1) q _ s' s2 (mI (fun _ _ h=>h.1) t HA2.out) HKK.out.1 hf).2];exact HKK.out.2.2.1
     ·have h9:=HKK.out.2.2.2.1;rw[hf]at h9;exact h9
    case measure=>simp[intOf];omega
  ·obtain rfl:q=ks.length:=by omega
   rw[List.drop_length]at k6
   go_wp2
   go_end0
   exact .inr ⟨s',k6.symm,rfl,k1,k2⟩
end
end Go.Proofs.YtoomapkcoibmhaaGreatDoor
end
section
open Go Go.Proofs Go.RowKit Go.Shelf Go.Maps Ck
namespace Go.Proofs.YtoomapkcoibmhaaGreatDoor
attribute [local go_sem] Oper.semAt_some
theorem Ed (S:lH) (ms:List Nat) (X:Except dS CS) (v:Value) (b10 b12 b4 b6:Nat) (w:World) (h10:au w b10 #[.func (.func 51) #[] #[.pointer (some ⟨b4,0,none⟩),.pointer (some ⟨b6,0,none⟩)]] 74) (h12:au w b12 #[v] 36)
  (hc:Calls Tryz.prog 51 #[v,.pointer (some ⟨b4,0,none⟩),.pointer (some ⟨b6,0,none⟩)] w (iq S ms w X)) :
  Calls Tryz.prog 57 #[.pointer (some ⟨b10,0,none⟩),.pointer (some ⟨b12,0,none⟩)] w (iq S ms w X):=by
 obtain⟨kc,kz,aH,kb⟩:=h10.rules
 obtain⟨jc,jz,RX,jb⟩:=h12.rules
 go_enter Tryz.func57,Tryz.ntmps57
 go_wp2_with (fail)
 go_at_call 51
 refine hc.mono ?_;rintro e w5 (⟨f,hf,rfl,hlow⟩|⟨s2,hf,rfl,K2,C2⟩)
 ·exact⟨rfl,.inl ⟨f,hf,rfl,hlow⟩⟩
 ·go_wp2
  go_end0
  exact .inr ⟨s2,hf,rfl,K2,C2⟩
theorem Nf (S:lH) (ms:List Nat) (X:Except dS CS) (v:Value) (b10 b12 b4 b6:Nat) (w:World) (h10:au w b10 #[.func (.func 51) #[] #[.pointer (some ⟨b4,0,none⟩),.pointer (some ⟨b6,0,none⟩)]] 74) (h12:au w b12 #[v] 36)
  (hc:Calls Tryz.prog 51 #[v,.pointer (some ⟨b4,0,none⟩),.pointer (some ⟨b6,0,none⟩)] w (iq S ms w X)) :
  Calls Tryz.prog 60 #[.pointer (some ⟨b10,0,none⟩),.pointer (some ⟨b12,0,none⟩)] w (iq S ms w X):=by
 obtain⟨kc,kz,aH,kb⟩:=h10.rules
 obtain⟨jc,jz,RX,jb⟩:=h12.rules
 go_enter Tryz.func60,Tryz.ntmps60
 go_wp2_with (fail)
 go_at_call 51
 refine hc.mono ?_;rintro e w5 (⟨f,hf,rfl,hlow⟩|⟨s2,hf,rfl,K2,C2⟩)
 ·exact⟨rfl,.inl ⟨f,hf,rfl,hlow⟩⟩
 ·go_wp2
  go_end0
  exact .inr ⟨s2,hf,rfl,K2,C2⟩
theorem Ee (S:lH) (ms:List Nat) (X:Except dS CS) (g' len sc k d p':Nat) (cur:Array Value) (b4 b12 b15 b6:Nat) (w:World) (h4:au w b4 #[.pointer (some ⟨S.bp,0,none⟩)] 45) (h12:au w b12 #[.slice (some ⟨g',0,none⟩) len sc] 36)
  (mW:au w b15 #[.int .i64 (k:Int)] 3) (h6:au w b6 #[.int .i64 (d:Int)] 3) (hg:au w g' cur 3) (hkl:k<len) (hll:(len:Int)≤1099511627776) (hd:d≤300) (hcur:cur[k]? = some (Value.int .i64 (p':Int)))
  (hc:∀n,Calls Tryz.prog 29 #[.pointer (some ⟨S.bp,0,none⟩),.int .i64 (p':Int),.int .i64 ((d:Int)+1),.int .i64 (k:Int)] (w.drewN n) (iq S ms (w.drewN n) X)) :
  Calls Tryz.prog 62 #[.pointer (some ⟨b4,0,none⟩),.pointer (some ⟨b12,0,none⟩),.pointer (some ⟨b15,0,none⟩),.pointer (some ⟨b6,0,none⟩)] w (iq S ms w X):=by
 obtain⟨kc,kz,aH,kb⟩:=h4.rules
 obtain⟨jc,jz,RX,jb⟩:=h12.rules
 obtain⟨lc,lz,pW,lb⟩:=mW.rules
 obtain⟨mc,mz,zX,mb⟩:=h6.rules
 have hcell:w.cell? ⟨g',k,none⟩=some (.int .i64 (p':Int)):=(hg.rules.1 k).trans hcur;go_enter Tryz.func62,Tryz.ntmps62;go_wp2;have hS:(fun X:World=>X.cell? ⟨b4,0,none⟩=some (.pointer (some ⟨S.bp,0,none⟩))∧X.cell? ⟨b12,0,none⟩=some (.slice (some ⟨g',0,none⟩) len sc)∧X.cell? ⟨b15,0,none⟩=some (.int .i64 (k:Int))∧X.cell? ⟨b6,0,none⟩=some (.int .i64 (d:Int))∧X.cell? ⟨g',k,none⟩=some (.int .i64 (p':Int))) w.drew:=⟨by show w.cell? _=_;rw[kc];rfl,by show w.cell? _=_;rw[jc];rfl,by show w.cell? _=_;rw[lc];rfl,by show w.cell? _=_;rw[mc];rfl,hcell⟩
 have hd2:(d:Int)≤300:=by omega
 have hc1:=hc 1;clear aH RX pW zX;refine wp_region_held (S:=fun X:World=>X.cell? ⟨b4,0,none⟩=some (.pointer (some ⟨S.bp,0,none⟩))∧X.cell? ⟨b12,0,none⟩=some (.slice (some ⟨g',0,none⟩) len sc)∧X.cell? ⟨b15,0,none⟩=some (.int .i64 (k:Int))∧X.cell? ⟨b6,0,none⟩=some (.int .i64 (d:Int))∧X.cell? ⟨g',k,none⟩=some (.int .i64 (p':Int))) (by kernel_rfl) ?_;refine tk 0 (.pointer (some ⟨S.bp,0,none⟩)) rfl hS (fun X hX=>?_) ?_
 ·obtain⟨hX1,hX2,fP,jP,Jf⟩:=hX;go_simp
 simp only[Act.put,acts];refine tk 1 (.slice (some ⟨g',0,none⟩) len sc) rfl hS (fun X hX=>?_) ?_
 ·obtain⟨hX1,hX2,fP,jP,Jf⟩:=hX;go_simp
 simp only[Act.put,acts];refine tk 2 (.int .i64 (k:Int)) rfl hS (fun X hX=>?_) ?_
 ·obtain⟨hX1,hX2,fP,jP,Jf⟩:=hX;go_simp
 simp only[Act.put,acts];refine tk 3 (.pointer (some ⟨g',k,none⟩)) rfl hS (fun X hX=>?_) ?_
 ·go_simp
 simp only[Act.put,acts];refine tk 4 (.int .i64 (p':Int)) rfl hS (fun X hX=>?_) ?_
 ·obtain⟨hX1,hX2,fP,jP,Jf⟩:=hX;go_simp
 simp only[Act.put,acts];refine tk 5 (.int .i64 (d:Int)) rfl hS (fun X hX=>?_) ?_
 ·obtain⟨hX1,hX2,fP,jP,Jf⟩:=hX;go_simp
 simp only[Act.put,acts];refine tk 6 (.int .i64 ((d:Int)+1)) rfl hS (fun X hX=>?_) ?_
 ·go_simp;rw[Go.IntWalk.i64_in _ (by omega)]
 simp only[Act.put,acts];refine tk 7 (.int .i64 (k:Int)) rfl hS (fun X hX=>?_) ?_
 ·obtain⟨hX1,hX2,fP,jP,Jf⟩:=hX;go_simp
 simp only[Act.put,acts];refine wpAnyH_all (rs:=[8]) (by kernel_rfl) (by simp) ?_;intro i2 hi2;obtain rfl:i2=8:=by simpa using hi2
 refine wpOp_step rfl (fun K hK=>?_);rw[if_pos (by rfl)];go_simp;refine hc1.mono ?_;rintro e w5 (⟨f,hf,rfl,hlow⟩|⟨s2,hf,rfl,K2,C2⟩)
 ·exact⟨rfl,.inl ⟨f,hf,rfl,hlow⟩⟩
 ·refine hK _ _ ⟨?_,wpAnyH_done (by kernel_rfl) ?_ _⟩
  ·have a4:=(C2.kept b4 _ _ (by decide) (by decide) (by decide) h4).rules.1 0;have a12:=(C2.kept b12 _ _ (by decide) (by decide) (by decide) h12).rules.1 0;have a15:=(C2.kept b15 _ _ (by decide) (by decide) (by decide) mW).rules.1 0;have a6:=(C2.kept b6 _ _ (by decide) (by decide) (by decide) h6).rules.1 0;have ag:=(C2.kept g' _ _ (by decide) (by decide) (by decide) hg).rules.1 k;exact⟨a4,a12,a15,a6,ag.trans hcur⟩
  ·go_wp2
   go_end0
   exact .inr ⟨s2,by first|rfl|exact hf,rfl,K2,(Ct.aC (Fr.refl _ _).drew).trans C2⟩
structure NF (S:lH) (n:Ck.Node) (i d:Nat) (ks:List Tree) (b4 b5 b6 b8 b9 b10 b12 g' sc:Nat) (sa:Option Addr) (cur:Array Value) (W:World):Prop where
 h4:au W b4 #[.pointer (some ⟨S.bp,0,none⟩)] 45
 h5:au W b5 #[.int .i64 (i:Int)] 3
 h6:au W b6 #[.int .i64 (d:Int)] 3
 h8:au W b8 #[.int .i64 n.kind,.int .i64 n.at',.int .i64 (ks.length:Int),.string ⟨n.text.toArray⟩,.int .i64 n.int,.int .u64 n.bits] 40
 h9:au W b9 #[.func (.func 50) #[] #[.pointer (some ⟨b8,0,none⟩)]] 97
 h10:au W b10 #[.func (.func 51) #[] #[.pointer (some ⟨b4,0,none⟩),.pointer (some ⟨b6,0,none⟩)]] 74
 h12:au W b12 #[.slice sa ks.length sc] 36
 hg:au W g' cur 3
 hc:∀(j q:Nat),(kpos (i+1) ks)[j]? = some q→cur[j]? = some (Value.int .i64 (q:Int))
 hsa:ks≠[]→sa=some ⟨g',0,none⟩
 cap:ks.length≤sc∧sc≤maxLen
theorem NF.ct {S:lH} {n:Ck.Node} {i d:Nat} {ks:List Tree} {b4 b5 b6 b8 b9 b10 b12 g' sc:Nat} {sa:Option Addr} {cur:Array Value} {W W':World} (h:NF S n i d ks b4 b5 b6 b8 b9 b10 b12 g' sc sa cur W) (c:Ct W W'):NF S n i d ks b4 b5 b6 b8 b9 b10 b12 g' sc sa cur W' :=
 ⟨c.kept _ _ _ (by decide) (by decide) (by decide) h.h4,c.kept _ _ _ (by decide) (by decide) (by decide) h.h5,c.kept _ _ _ (by decide) (by decide) (by decide) h.h6,c.kept _ _ _ (by decide) (by decide) (by decide) h.h8,
  c.kept _ _ _ (by decide) (by decide) (by decide) h.h9,c.kept _ _ _ (by decide) (by decide) (by decide) h.h10,c.kept _ _ _ (by decide) (by decide) (by decide) h.h12,c.kept _ _ _ (by decide) (by decide) (by decide) h.hg,h.hc,h.hsa,h.cap⟩
def SR (S:lH) (b4 b8 b9:Nat) (x:Bytes) (X:World):Prop :=
 X.cell? ⟨b9,0,none⟩=some (.func (.func 50) #[] #[.pointer (some ⟨b8,0,none⟩)])∧X.cell? ⟨b4,0,none⟩=some (.pointer (some ⟨S.bp,0,none⟩))∧X.cell? ⟨b8,3,none⟩=some (.string ⟨x.toArray⟩)
theorem SR.fr {S:lH} {b4 b8 b9:Nat} {x:Bytes} {X Y:World} (h:SR S b4 b8 b9 x X) (hf:Fr [] X Y):SR S b4 b8 b9 x Y :=
 ⟨hf.cell h.1 (by simp),hf.cell h.2.1 (by simp),hf.cell h.2.2 (by simp)⟩
theorem SR.drew {S:lH} {b4 b8 b9:Nat} {x:Bytes} {X:World} (h:SR S b4 b8 b9 x X):SR S b4 b8 b9 x X.drew:=h.fr (Fr.refl _ _).drew
section
variable {S:lH} {N:Nat} {n:Ck.Node} {i d:Nat} {ks:List Tree} {b4 b5 b6 b8 b9 b10 b12 g' sc:Nat} {sa:Option Addr} {cur:Array Value} {W:World}
theorem NF.sr (h:NF S n i d ks b4 b5 b6 b8 b9 b10 b12 g' sc sa cur W):SR S b4 b8 b9 n.text W:=⟨h.h9.rules.1 0,h.h4.rules.1 0,h.h8.rules.1 3⟩
theorem NF.each (ih:rR S N) (h:NF S n i d ks b4 b5 b6 b8 b9 b10 b12 g' sc sa cur W) (rest:List Ck.Node) (B:Nat) (s:CS) (ms:List Nat)
  (hs:sizes ks≤N) (hT:S.R.drop (i+1)=rows ks++rest) (hA:oH sK ks) (hms:ms≠[]) (hb:Bd s B) (h1:s.scopes.length≤d+1) (h2:s.loops.length≤d+1) (hd:d+1≤257) (hK:CK S s ms W) (hpl:B+sizes ks≤1099511627776) :
  Calls Tryz.prog 51 #[.slice sa ks.length sc,.pointer (some ⟨b4,0,none⟩),.pointer (some ⟨b6,0,none⟩)] W (iq S ms W (gu S.E ks (d+1) 0 s)) :=
 Bn ih ks rest (i+1) d B s ms W g' sc b4 b6 sa cur hs hT hA hms hb h1 h2 hd hK hpl h.hg h.hc h.hsa h.h4 h.h6
end
section
variable {S:lH} {ms:List Nat} {w W:World} {r:Except dS CS}
theorem aQ {f:Unit→Except dS CS} {bb:Bool} (b:Bool) (e kk:Int) (nb:Nat) (n:Ck.Node)
  (h8:au W nb #[.int .i64 n.kind,.int .i64 n.at',.int .i64 kk,.string ⟨n.text.toArray⟩,.int .i64 n.int,.int .u64 n.bits] 40) (hlow:Below S.base S.w0 W) (HM:Hid ((need bb e n.at' >>= f)=r)) (hbb:b=bb) :
  Calls Tryz.prog 50 #[.bool b,.int .i64 e,.pointer (some ⟨nb,0,none⟩)] W fun e' w'=>(∃ft,e'=Db ft∧iq S ms w r (Db ft) w')∨(e'=.returned (.tuple #[])∧W=w'∧bb=false∧Hid (f ()=r)):=by
 subst hbb;refine(jG b e nb { n with kids:=kk } W h8).mono ?_
 have HM:=HM.out;rintro e' w' (⟨rfl,rfl,rfl⟩|⟨rfl,rfl,rfl⟩)
 ·exact .inl ⟨_,rfl,.inl ⟨_,HM.symm,rfl,hlow⟩⟩
 ·exact .inr ⟨rfl,rfl,rfl,HM⟩
theorem iq.uq {X:Except dS CS} {f:CS→Except dS CS} {e:Ending} {w':World} (h:iq S ms W X e w') (HM:Hid ((X >>= f)=r)) (hc:Ct w W) :
  (∃ft,e=Db ft∧iq S ms w r (Db ft) w')∨∃s2,e=.returned (.tuple #[])∧CK S s2 ms w'∧Ct W w'∧X=.ok s2∧Hid (f s2=r):=by
 have HM:=HM.out;rcases h with⟨ft,rfl,rfl,hlow⟩|⟨s2,rfl,rfl,K2,C2⟩
 ·exact .inl ⟨ft,rfl,.inl ⟨ft,HM.symm,rfl,hlow⟩⟩
 ·exact .inr ⟨s2,rfl,K2,C2,rfl,HM⟩
theorem iq.last {X:Except dS CS} {e:Ending} {w':World} (h:iq S ms W X e w') (HM:Hid (X=r)) (hc:Ct w W):iq S ms w r e w':=by
 have HM:=HM.out;subst HM;rcases h with⟨ft,rfl,rfl,hlow⟩|⟨s2,rfl,rfl,K2,C2⟩
 ·exact .inl ⟨ft,rfl,rfl,hlow⟩
 ·exact .inr ⟨s2,rfl,rfl,K2,hc.trans C2⟩
end
def SL (S:lH) (b4 b8 b9:Nat) (x:Bytes) (lv:Value) (X:World):Prop:=SR S b4 b8 b9 x X∧X.cell? ⟨S.bp,6,none⟩=some lv
theorem oI {W:World} {base:Nat} {v:Value} {n:Nat} {l:List Bytes} (h:W.ownsRow base 9 1 v n (cK l)):bO W v l:=by
 have hl:=h.1;simp[cK]at hl
 rcases Nat.eq_zero_or_pos n with hn|hn
 ·obtain⟨a,c,rfl⟩:=gX h
  refine .inl ⟨List.eq_nil_of_length_eq_zero (by omega),a,c,by rw[hn]⟩
 ·obtain⟨g',cap',rfl,hgb,hgl⟩:=h.form hn
  refine .inr ⟨g',cap',by rw[hl],hgl,fun j hj=>?_⟩;rw[h.cellAt j (by omega)];simp[cK,List.getD,hj]
theorem je (l:List Bytes) (x:Bytes):l.reverse.contains x=l.contains x:=by
 rw[Bool.eq_iff_iff];simp
theorem _root_.Ck.Bd.top {s:CS} {B:Nat} (h:Bd s B):s.top.length≤B:=by
 unfold CS.top;cases hs:s.scopes with
 | nil=>simp
 | cons a l=>exact h.sc a (by rw[hs];simp)
theorem fZ {W:World} {base n fb:Nat} {v:Value} {xs:List Value} {fc:Array Value} (h:W.ownsRow base 3 1 v n xs) (hf:au W fb fc 3) :
  ∃g' cur sa sc,v=.slice sa n sc∧au W g' cur 3∧(∀(j:Nat) (u:Value),xs[j]? = some u→cur[j]? = some u)∧(0<n→sa=some ⟨g',0,none⟩)∧n≤sc∧sc≤maxLen:=by
 have hl:=h.1;rcases Nat.eq_zero_or_pos n with hn|hn
 ·subst hn;obtain⟨a,c,rfl⟩:=gX h
  obtain⟨h1,h2⟩:=bX h
  refine⟨fb,fc,a,c,rfl,hf,fun j u hj=>?_,fun h0=>absurd h0 (by omega),h1,h2⟩
  have:xs=[]:=List.eq_nil_of_length_eq_zero (by simpa using hl)
  subst this;cases hj
 ·obtain⟨a,c,rfl⟩:=gX h
  obtain⟨h1,h2⟩:=bX h
  obtain⟨g',cap',hv,hgb,hgl⟩:=h.form hn
  cases hv;obtain⟨_,cur,hB⟩:=mH h g' rfl
  refine⟨g',cur,_,c,rfl,hB,fun j u hj=>?_,fun _=>rfl,h1,h2⟩;have hjl:j<n:=by have:=(List.getElem?_eq_some_iff.1 hj).1;simpa[hl]using this
  rw[←hB.rules.1 j,h.cellAt j (by omega),hj]
theorem qC {S:lH} {s:CS} {ms:List Nat} {w:World} (h:CK S s ms w):w.heap.size∉S.mg::S.mp::S.ma::ms:=by
 intro hm;have h1:=h.Je.lt;have h2:=h.par.lt;have h3:=h.Ea.lt
 have h4:∀(ms:List Nat) (ls:List (List Bytes)),Sets w ms ls→∀m∈ms,m<w.heap.size:=by
  intro ms
  induction ms with
  | nil=>intro ls _ m hm;cases hm
  | cons a ms ih =>
   intro ls hS m hm;cases ls with
   | nil=>exact hS.elim
   | cons l ls =>
    rcases List.mem_cons.1 hm with rfl|hm
    ·exact hS.1.lt
    ·exact ih ls hS.2 m hm
 simp only[List.mem_cons]at hm;rcases hm with e|e|e|e
 ·omega
 ·omega
 ·omega
 ·have:=h4 ms _ h.sets _ e;omega
theorem jB {H:Type} {P:Program} (w:World) {o:Oper} {a:Act} {K':Act→World→Prop} {Q:Exit→Act→World→Prop} (m x v:Operand) (t:TypeId) (hop:o.op=Op.mapUpdate t m x v)
  (k e:TypeId) (K:Keyed P k) (ht:P.underlying t=some (.map k e)) (R:Value→Option (DataW H × List MemPlace)) (b n:Nat) (D:DataW H)
  (hm:a.eval m=.map (some b)) (hown:w.ownsMap P k R b n D) (hn:n<maxLen) (key val:Value) (kl:Lit) (hx:a.eval x=key) (hv:a.eval v=val) (hkey:keyOf P k key=some kl)
  (d:DataW H) (ps:List MemPlace) (hval:R val=some (d,ps))
  (hK:∀w',w'.ownsMap P k R b (n+1) (D.put kl d)→w.grownBy w' (some b)→K' (a.put o.dst undef) w') :
  Oper.wp P o a w K' Q:=by
 obtain⟨w',hrun,r1,r2⟩:=hown.update K ht hn hkey hval
 unfold Oper.wp;simp[execOp,hop,hm,hx,hv,hrun,Result.andThen];exact hK w' r1 r2
def nw (S:lH) (n:Ck.Node) (i d:Nat) (ks:List Tree) (w:World):World:=((((((w.alloc (.cells #[.pointer (some ⟨S.bp,0,none⟩)] 45)).alloc (.cells #[.int .i64 (i:Int)] 3)).alloc (.cells #[.int .i64 (d:Int)] 3)).alloc (.cells #[.int .i64 n.kind,.int .i64 n.at',.int .i64 (ks.length:Int),.string ⟨n.text.toArray⟩,.int .i64 n.int,.int .u64 n.bits] 40)).alloc (.cells #[.func (.func 50) #[] #[.pointer (some ⟨w.heap.size+1+1+1,0,none⟩)]] 97)).alloc (.cells #[.func (.func 51) #[] #[.pointer (some ⟨w.heap.size,0,none⟩),.pointer (some ⟨w.heap.size+1+1,0,none⟩)]] 74)).drew
theorem npre (S:lH) (n:Ck.Node) (i d:Nat) (ks:List Tree) (w:World):Fr [] w (nw S n i d ks w)∧au (nw S n i d ks w) (w.heap.size) #[.pointer (some ⟨S.bp,0,none⟩)] 45∧au (nw S n i d ks w) (w.heap.size+1) #[.int .i64 (i:Int)] 3∧au (nw S n i d ks w) (w.heap.size+1+1) #[.int .i64 (d:Int)] 3∧au (nw S n i d ks w) (w.heap.size+1+1+1) #[.int .i64 n.kind,.int .i64 n.at',.int .i64 (ks.length:Int),.string ⟨n.text.toArray⟩,.int .i64 n.int,.int .u64 n.bits] 40∧au (nw S n i d ks w) (w.heap.size+1+1+1+1) #[.func (.func 50) #[] #[.pointer (some ⟨w.heap.size+1+1+1,0,none⟩)]] 97∧au (nw S n i d ks w) (w.heap.size+1+1+1+1+1) #[.func (.func 51) #[] #[.pointer (some ⟨w.heap.size,0,none⟩),.pointer (some ⟨w.heap.size+1+1,0,none⟩)]] 74:=by
 unfold nw;refine⟨(((((((Fr.refl [] _).alloc _).alloc _).alloc _).alloc _).alloc _).alloc _).drew,?_,?_,?_,?_,?_,?_⟩
 ·have h1:=au.new w #[.pointer (some ⟨S.bp,0,none⟩)] 45;exact h1.fr (((((((Fr.refl [] _).alloc _).alloc _).alloc _).alloc _).alloc _).drew) (by simp)
 ·have h1:=au.new (w.alloc (.cells #[.pointer (some ⟨S.bp,0,none⟩)] 45)) #[.int .i64 (i:Int)] 3;simp only[World.size_alloc]at h1;exact h1.fr ((((((Fr.refl [] _).alloc _).alloc _).alloc _).alloc _).drew) (by simp)
 ·have h1:=au.new ((w.alloc (.cells #[.pointer (some ⟨S.bp,0,none⟩)] 45)).alloc (.cells #[.int .i64 (i:Int)] 3)) #[.int .i64 (d:Int)] 3;simp only[World.size_alloc]at h1;exact h1.fr (((((Fr.refl [] _).alloc _).alloc _).alloc _).drew) (by simp)
 ·have h1:=au.new (((w.alloc (.cells #[.pointer (some ⟨S.bp,0,none⟩)] 45)).alloc (.cells #[.int .i64 (i:Int)] 3)).alloc (.cells #[.int .i64 (d:Int)] 3)) #[.int .i64 n.kind,.int .i64 n.at',.int .i64 (ks.length:Int),.string ⟨n.text.toArray⟩,.int .i64 n.int,.int .u64 n.bits] 40;simp only[World.size_alloc]at h1;exact h1.fr ((((Fr.refl [] _).alloc _).alloc _).drew) (by simp)
 ·have h1:=au.new ((((w.alloc (.cells #[.pointer (some ⟨S.bp,0,none⟩)] 45)).alloc (.cells #[.int .i64 (i:Int)] 3)).alloc (.cells #[.int .i64 (d:Int)] 3)).alloc (.cells #[.int .i64 n.kind,.int .i64 n.at',.int .i64 (ks.length:Int),.string ⟨n.text.toArray⟩,.int .i64 n.int,.int .u64 n.bits] 40)) #[.func (.func 50) #[] #[.pointer (some ⟨w.heap.size+1+1+1,0,none⟩)]] 97;simp only[World.size_alloc]at h1;exact h1.fr (((Fr.refl [] _).alloc _).drew) (by simp)
 ·have h1:=au.new (((((w.alloc (.cells #[.pointer (some ⟨S.bp,0,none⟩)] 45)).alloc (.cells #[.int .i64 (i:Int)] 3)).alloc (.cells #[.int .i64 (d:Int)] 3)).alloc (.cells #[.int .i64 n.kind,.int .i64 n.at',.int .i64 (ks.length:Int),.string ⟨n.text.toArray⟩,.int .i64 n.int,.int .u64 n.bits] 40)).alloc (.cells #[.func (.func 50) #[] #[.pointer (some ⟨w.heap.size+1+1+1,0,none⟩)]] 97)) #[.func (.func 51) #[] #[.pointer (some ⟨w.heap.size,0,none⟩),.pointer (some ⟨w.heap.size+1+1,0,none⟩)]] 74;simp only[World.size_alloc]at h1;exact h1.fr ((Fr.refl [] _).drew) (by simp)
theorem Jg {S:lH} {s:CS} {ms:List Nat} {w:World} {n:Ck.Node} {ks:List Tree} {i:Nat} (hK:CK S s ms w) (aD:S.R[i]? = some { n with kids:=(ks.length:Int) }) :
  w.cell? ⟨S.bp,0,none⟩=some (.slice (some ⟨S.g,0,none⟩) S.R.length S.c)∧(∀q,S.g<w.heap.size+q)∧(∀q,S.bp<w.heap.size+q)∧w.cell? ⟨S.g,i*6,none⟩=some (.int .i64 n.kind)∧w.cell? ⟨S.g,i*6+1,none⟩=some (.int .i64 n.at')∧w.cell? ⟨S.g,i*6+2,none⟩=some (.int .i64 (ks.length:Int))∧w.cell? ⟨S.g,i*6+3,none⟩=some (.string ⟨n.text.toArray⟩)∧w.cell? ⟨S.g,i*6+4,none⟩=some (.int .i64 n.int)∧w.cell? ⟨S.g,i*6+5,none⟩=some (.int .u64 n.bits):=by
 obtain⟨sv,lv,hb0,_,_⟩:=hK.ex
 obtain⟨rc,rz,bE,rb⟩:=hb0.rules
 have ko:=hK.rat.gl;have cB:=hK.rat.cells i _ aD;exact⟨rc 0,fun q=>by omega,fun q=>by omega,cB 0 (by omega),cB 1 (by omega),cB 2 (by omega),cB 3 (by omega),cB 4 (by omega),cB 5 (by omega)⟩
theorem Ng {S:lH} {N:Nat} (ih:rR S N) (n:Ck.Node) (ks:List Tree) (rest:List Ck.Node) (i d k B:Nat) (s:CS) (ms:List Nat) (w:World) (hs:(Tree.mk n ks).size≤N+1) (hT:S.R.drop i=(Tree.mk n ks).row++rest) (hA:(Tree.mk n ks).all sK) (hms:ms≠[]) (hb:Bd s B) (hB:B+(Tree.mk n ks).size≤1099511627776) (hsc:s.scopes.length≤d) (hlp:s.loops.length≤d) (hd:d≤257) (hkk:k≤1099511627776) (hK:CK S s ms w)
  (t2:(n.kind==2)=false) (t3:(n.kind==3)=false) (t4:(n.kind==4)=false) (t5:(n.kind==5)=false) (t6:(n.kind==6)=false) (t10:(n.kind==10)=false) (t11:(n.kind==11)=false) (t12:(n.kind==12)=false) (t25:(n.kind==25)=false) (t7:(n.kind==7)=false) (t23:(n.kind==23)=false) (uw:(n.kind==13)=false) (uy:(n.kind==14)=false) :
  Calls Tryz.prog 29 #[.pointer (some ⟨S.bp,0,none⟩),.int .i64 (i:Int),.int .i64 (d:Int),.int .i64 (k:Int)] w (iq S ms w (jg S.E (Tree.mk n ks) d k s)):=by
 obtain⟨r,hr⟩:∃r,Hid (jg S.E (Tree.mk n ks) d k s=r):=⟨_,rfl⟩
 rw[hr.out]
 have HM:Hid ((need (decide (256<d)) 71 n.at' >>= fun _=>gu S.E ks (d+1) 0 s)=r):=by
  have h1:=hr.out;unfold jg at h1;simp only[t2,t3,t4,t5,t6,t10,t11,t12,t25,t7,t23,uw,uy,Bool.or_false,Bool.false_or,Bool.or_true,Bool.true_or,Bool.or_self,Bool.false_eq_true,if_true,if_false,reduceIte]at h1;exact h1
 clear hr;obtain⟨hrow,aD⟩:=bJ hT
 have o9:(Tree.mk n ks).size=sizes ks+1:=by simp[Tree.size]
 have hkl:ks.length≤sizes ks:=by rw[←bP];exact eZ ks
 have hil:(i:Int)<S.R.length:=by have:=(List.getElem?_eq_some_iff.1 aD).1;omega
 have hx:n.text.length≤140737488351232:=(hK.ok _ (List.mem_of_getElem? aD)).text;obtain⟨sv,lv,hb0,_,_⟩:=hK.ex
 obtain⟨rc,rz,bE,rb⟩:=hb0.rules
 have hlim:=hK.lim;have ko:=hK.rat.gl;obtain⟨rP,hgl,uW,n0,n1,n2,n3,n4,n5⟩:=Jg hK aD
 obtain⟨W5,gU⟩:∃X,X=nw S n i d ks w:=⟨_,rfl⟩
 obtain⟨kJ,k4,k5,k6,k8,k9,k10⟩:=gU ▸ npre S n i d ks w
 unfold nw at gU;have gP:=hK.fr kJ;obtain⟨Ko,Kq,hb5,_,_⟩:=gP.ex
 have hk:=dM S.bp S.R rest i S.g S.c n ks hT hlim W5 gP.rat _ hb5 rfl;have hcw:=aQ (S:=S) (ms:=ms) (w:=w) (decide (256<(d:Int))) 71 (ks.length:Int) (w.heap.size+1+1+1) n k8 gP.low HM (by simp;omega);have oJ:=Lib.hid gP;have HT:=Lib.hid hT;have HR:=Lib.hid hrow;have HN:=Lib.hid aD;have HA:=Lib.hid hA;have nI:=Lib.hid kJ;have Kr:=Lib.hid hK;have HB:=Lib.hid hb;clear gP hT hrow aD hA kJ hK hb hb5 HM hb0;have hdi:(d:Int)≤300:=by omega
 have hki:(k:Int)≤1099511627776:=by omega
 go_enter Tryz.func29,Tryz.ntmps29
 go_wp2_with (fail)
 go_region
 go_wp2_with (fail)
 rw[←gU];clear gU rc rz bE rb rP ko hgl uW n0 n1 n2 n3 n4 n5
 go_at_call 50
 refine hcw.mono ?_;clear hcw;rintro e1 w1 (⟨ft,rfl,hout⟩|⟨rfl,rfl,hq1,HM⟩)
 ·exact⟨rfl,hout⟩
 have hd2:d≤256:=by simpa using hq1
 obtain⟨c4,z4,s4,l4⟩:=k4.rules
 obtain⟨c5,z5,s5,l5⟩:=k5.rules
 go_wp2_with (fail)
 go_at_call 31
 refine hk.mono ?_;clear hk c4 z4 s4 l4 c5 z5 s5 l5;rintro e2 w2 ⟨v,rfl,hown,hf2⟩;obtain⟨g',cur,sa,sc,rfl,hgb,hcur,hsa,hcap⟩:=fZ hown (k5.fr hf2 (by simp))
 obtain⟨W,hW⟩:∃X,X=w2.alloc (.cells #[.slice sa ks.length sc] 36):=⟨_,rfl⟩
 have kK:Fr [] w2 W:=by rw[hW];exact(Fr.refl _ _).alloc _
 have aN:Fr [] W5 W:=hf2.trans kK
 have nf:NF S n i d ks w.heap.size (w.heap.size+1) (w.heap.size+1+1) (w.heap.size+1+1+1) (w.heap.size+1+1+1+1) (w.heap.size+1+1+1+1+1) w2.heap.size g' sc sa cur W :=
  ⟨k4.fr aN (by simp),k5.fr aN (by simp),k6.fr aN (by simp),k8.fr aN (by simp),k9.fr aN (by simp),k10.fr aN (by simp),by rw[hW];exact au.new _ _ _,hgb.fr kK (by simp),fun j q hj=>hcur j _ (by simp[gM,hj]),fun hne=>hsa (List.length_pos_iff.2 hne),hcap⟩
 have hKW:=oJ.out.fr aN;have hcW:Ct w W:=Ct.aC (nI.out.trans aN);clear kK aN hgb hcur hsa hown hf2 k4 k5 k6 k8 k9 k10 oJ nI
 go_upto_region 7 with(fail)
 rw[←hW];clear hW;generalize w2.heap.size=b12 at *;obtain⟨c8,z8,s8,l8⟩:=nf.h8.rules
 have vE:=nf.each ih rest B s ms (by omega) HR.out HA.out.2 hms HB.out (by omega) (by omega) (by omega) hKW (by omega);obtain⟨c10,Oo,s10,l10⟩:=nf.h10.rules
 obtain⟨c12,z12,s12,Gi⟩:=nf.h12.rules
 go_wp2_with (fail)
 go_at_call 51
 refine vE.mono ?_;rintro e5 w5 ho;rcases ho.last HM hcW with⟨ft,h1,rfl,h3⟩|⟨s2,h1,rfl,K2,C2⟩
 ·exact⟨rfl,.inl ⟨ft,h1,rfl,h3⟩⟩
 ·go_wp2
  go_end0
  exact .inr ⟨s2,h1,rfl,K2,C2⟩
theorem Nh {S:lH} {N:Nat} (ih:rR S N) (n:Ck.Node) (ks:List Tree) (rest:List Ck.Node) (i d k B:Nat) (s:CS) (ms:List Nat) (w:World) (hs:(Tree.mk n ks).size≤N+1) (hT:S.R.drop i=(Tree.mk n ks).row++rest) (hA:(Tree.mk n ks).all sK) (hms:ms≠[]) (hb:Bd s B) (hB:B+(Tree.mk n ks).size≤1099511627776) (hsc:s.scopes.length≤d) (hlp:s.loops.length≤d) (hd:d≤257) (hkk:k≤1099511627776) (hK:CK S s ms w)
  (t2:(n.kind==2)=false) (t3:(n.kind==3)=false) (t4:(n.kind==4)=false) (t5:(n.kind==5)=true) (t6:(n.kind==6)=false) (t10:(n.kind==10)=false) (t11:(n.kind==11)=false) (t12:(n.kind==12)=false) (t25:(n.kind==25)=false) (t7:(n.kind==7)=false) (t23:(n.kind==23)=false) (uw:(n.kind==13)=false) (uy:(n.kind==14)=false) :
  Calls Tryz.prog 29 #[.pointer (some ⟨S.bp,0,none⟩),.int .i64 (i:Int),.int .i64 (d:Int),.int .i64 (k:Int)] w (iq S ms w (jg S.E (Tree.mk n ks) d k s)):=by
 obtain⟨r,hr⟩:∃r,Hid (jg S.E (Tree.mk n ks) d k s=r):=⟨_,rfl⟩
 rw[hr.out]
 have HM:Hid ((need (decide (256<d)) 71 n.at' >>= fun _=>(gu S.E ks (d+1) 0 { s with scopes:=[]::s.scopes } >>= fun s'=>pure { s' with scopes:=s'.scopes.tail }))=r):=by
  have h1:=hr.out;unfold jg at h1;simp only[t2,t3,t4,t5,t6,t10,t11,t12,t25,t7,t23,uw,uy,Bool.or_false,Bool.false_or,Bool.or_true,Bool.true_or,Bool.or_self,Bool.false_eq_true,if_true,if_false,reduceIte]at h1;exact h1
 clear hr;obtain⟨hrow,aD⟩:=bJ hT
 have o9:(Tree.mk n ks).size=sizes ks+1:=by simp[Tree.size]
 have hkl:ks.length≤sizes ks:=by rw[←bP];exact eZ ks
 have hil:(i:Int)<S.R.length:=by have:=(List.getElem?_eq_some_iff.1 aD).1;omega
 have hx:n.text.length≤140737488351232:=(hK.ok _ (List.mem_of_getElem? aD)).text;obtain⟨sv,lv,hb0,_,_⟩:=hK.ex
 obtain⟨rc,rz,bE,rb⟩:=hb0.rules
 have hlim:=hK.lim;have ko:=hK.rat.gl;obtain⟨rP,hgl,uW,n0,n1,n2,n3,n4,n5⟩:=Jg hK aD
 obtain⟨W5,gU⟩:∃X,X=nw S n i d ks w:=⟨_,rfl⟩
 obtain⟨kJ,k4,k5,k6,k8,k9,k10⟩:=gU ▸ npre S n i d ks w
 unfold nw at gU;have gP:=hK.fr kJ;obtain⟨Ko,Kq,hb5,_,_⟩:=gP.ex
 have hk:=dM S.bp S.R rest i S.g S.c n ks hT hlim W5 gP.rat _ hb5 rfl;have hcw:=aQ (S:=S) (ms:=ms) (w:=w) (decide (256<(d:Int))) 71 (ks.length:Int) (w.heap.size+1+1+1) n k8 gP.low HM (by simp;omega);have oJ:=Lib.hid gP;have HT:=Lib.hid hT;have HR:=Lib.hid hrow;have HN:=Lib.hid aD;have HA:=Lib.hid hA;have nI:=Lib.hid kJ;have Kr:=Lib.hid hK;have HB:=Lib.hid hb;clear gP hT hrow aD hA kJ hK hb hb5 HM hb0;have hdi:(d:Int)≤300:=by omega
 have hki:(k:Int)≤1099511627776:=by omega
 go_enter Tryz.func29,Tryz.ntmps29
 go_wp2_with (fail)
 go_region
 go_wp2_with (fail)
 rw[←gU];clear gU rc rz bE rb rP ko hgl uW n0 n1 n2 n3 n4 n5
 go_at_call 50
 refine hcw.mono ?_;clear hcw;rintro e1 w1 (⟨ft,rfl,hout⟩|⟨rfl,rfl,hq1,HM⟩)
 ·exact⟨rfl,hout⟩
 have hd2:d≤256:=by simpa using hq1
 obtain⟨c4,z4,s4,l4⟩:=k4.rules
 obtain⟨c5,z5,s5,l5⟩:=k5.rules
 go_wp2_with (fail)
 go_at_call 31
 refine hk.mono ?_;clear hk c4 z4 s4 l4 c5 z5 s5 l5;rintro e2 w2 ⟨v,rfl,hown,hf2⟩;obtain⟨g',cur,sa,sc,rfl,hgb,hcur,hsa,hcap⟩:=fZ hown (k5.fr hf2 (by simp))
 obtain⟨W,hW⟩:∃X,X=w2.alloc (.cells #[.slice sa ks.length sc] 36):=⟨_,rfl⟩
 have kK:Fr [] w2 W:=by rw[hW];exact(Fr.refl _ _).alloc _
 have aN:Fr [] W5 W:=hf2.trans kK
 have nf:NF S n i d ks w.heap.size (w.heap.size+1) (w.heap.size+1+1) (w.heap.size+1+1+1) (w.heap.size+1+1+1+1) (w.heap.size+1+1+1+1+1) w2.heap.size g' sc sa cur W :=
  ⟨k4.fr aN (by simp),k5.fr aN (by simp),k6.fr aN (by simp),k8.fr aN (by simp),k9.fr aN (by simp),k10.fr aN (by simp),by rw[hW];exact au.new _ _ _,hgb.fr kK (by simp),fun j q hj=>hcur j _ (by simp[gM,hj]),fun hne=>hsa (List.length_pos_iff.2 hne),hcap⟩
 have hKW:=oJ.out.fr aN;have hcW:Ct w W:=Ct.aC (nI.out.trans aN);clear kK aN hgb hcur hsa hown hf2 k4 k5 k6 k8 k9 k10 oJ nI
 go_upto_region 7 with(fail)
 rw[←hW];clear hW;generalize w2.heap.size=b12 at *;obtain⟨c8,z8,s8,l8⟩:=nf.h8.rules
 obtain⟨c4,z4,s4,l4⟩:=nf.h4.rules
 have hfm:Fr [] W (W.alloc (.map #[] 0)):=(Fr.refl _ _).alloc _;have U9:=hKW.fr hfm;have hset:eP (W.alloc (.map #[] 0)) W.heap.size []:=⟨0,_,World.ownsMap_made W _ _ _,by simp,fun x=>by simp[Maps.has]⟩
 have hin:=Kl #[.pointer (some ⟨w.heap.size+1+1+1+1+1,0,none⟩),.pointer (some ⟨b12,0,none⟩)] W.heap.size [] (gu S.E ks (d+1) 0 { s with scopes:=[]::s.scopes }) U9 hset (qC hKW) hKW.bw (by omega) (fun w1 k1 q1=>Nf S (W.heap.size::ms) _ _ _ _ _ _ w1 (nf.ct ((Ct.aC hfm).trans q1)).h10 (nf.ct ((Ct.aC hfm).trans q1)).h12 (NF.each ih (nf.ct ((Ct.aC hfm).trans q1)) rest B _ (W.heap.size::ms) (by omega) HR.out HA.out.2 (by simp) (HB.out.push [] (by simp)) (by simp;omega) (by simpa using Nat.le_succ_of_le hlp) (by omega) k1 (by omega)));have hmm:=@run_makeMap Tryz.prog
 go_wp2_with (fail)
 go_at_call 56
 refine hin.mono ?_;rintro e5 w5 ho;rcases ho.last HM (hcW.trans (Ct.aC hfm)) with⟨ft,h1,rfl,h3⟩|⟨s2,h1,rfl,K2,C2⟩
 ·exact⟨rfl,.inl ⟨ft,h1,rfl,h3⟩⟩
 ·go_wp2
  go_end0
  exact .inr ⟨s2,h1,rfl,K2,C2⟩
end Go.Proofs.YtoomapkcoibmhaaGreatDoor
end
