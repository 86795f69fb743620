/- A part of the proof. -/
import Derived.Test.YtoomapkcoibmhaaGreatDoorQ10
set_option maxRecDepth 100000
set_option maxHeartbeats 12800000
set_option linter.all false
section
open Go Go.Proofs Go.RowKit Ck
namespace Go.Proofs.YtoomapkcoibmhaaGreatDoor
def dB (r:LR):Value :=
 match r with
 | .ok (t,k)=>.tuple #[eU t,.int .i64 k,.int .i64 0]
 | .error c=>.tuple #[eU ⟨0,0,[],0,0⟩,.int .i64 0,.int .i64 c]
theorem CG (s:Bytes) (c:Int) (h:bN s=.error c):0<c:=by
 unfold bN rT at h
 repeat' split at h
 all_goals (first|(cases h;done)|(obtain rfl:=Except.error.inj h;decide))
theorem Mx (s:Bytes) (w:World) (hV:Vars w) (hs:s.length≤140737488351232) :
 Calls Tryz.prog 100 #[.string ⟨s.toArray⟩] w (fun e w'=>e=.returned (dB (jD s))∧Fr [] w w'):=by
 have hr:run digit s≤s.length:=EI _ _;have ht:(s.take (run digit s)).length≤140737488351232:=by simp;omega
 have HF:Hid (jD s=match bN (s.take (run digit s))with | .ok i=>.ok (⟨4,0,[],i,0⟩,run digit s) | .error _=>.error 62):=rfl;cases hp:bN (s.take (run digit s)) with
 | ok i =>
  have HP:=Lib.hid hp;rw[hp]at HF;clear hp
  go_enter Tryz.func100,Tryz.ntmps100
  go_wp2_with (first|(go_at_call 69;refine(zJ s _ hs).mono ?_;rintro e w' ⟨rfl,rfl⟩)|(go_at_call 148;refine(Gn _ i _ (hV.fr ((Fr.refl [] _).alloc _) (by simp)) ht HP.out).mono ?_;rintro e w1 ⟨rfl,hf⟩;obtain⟨hc,hz,hset,hb⟩:=((au.new w _ _).fr hf (by simp)).rules))
  refine bodyPost_ret (v:=dB (jD s)) (by rw[HF.out];simp[results,Tryz.results100,go_sem,dB,eU,hb]) rfl ⟨rfl,?_⟩
  repeat (first|exact((Fr.refl _ _).alloc _).trans hf|refine Fr.blk ?_ (.inr (by simp)) _ _)
 | error c =>
  have hc0:=CG _ _ hp;have HP:=Lib.hid hp;rw[hp]at HF;clear hp
  go_enter Tryz.func100,Tryz.ntmps100
  go_wp2_with (first|(go_at_call 69;refine(zJ s _ hs).mono ?_;rintro e w' ⟨rfl,rfl⟩)|(go_at_call 148;refine(EJ _ c _ (hV.fr ((Fr.refl [] _).alloc _) (by simp)) ht HP.out).mono ?_;rintro e w1 ⟨rfl,hf⟩;obtain⟨hc,hz,hset,hb⟩:=((au.new w _ _).fr hf (by simp)).rules))
  refine bodyPost_ret (v:=dB (jD s)) (by rw[HF.out];simp[results,Tryz.results100,go_sem,dB,eU,hb]) rfl ⟨rfl,?_⟩
  repeat (first|exact((Fr.refl _ _).alloc _).trans hf|refine Fr.blk ?_ (.inr (by simp)) _ _)
def strs (l:List Bytes):Array Value:=(l.map fun s=>Value.string ⟨s.toArray⟩).toArray
theorem Ot (l:List Bytes) (i:Nat) (h:i<l.length):(strs l)[i]? = some (.string ⟨(l[i]).toArray⟩):=by
 simp[strs,h]
theorem MB (w:World) :
 Calls Tryz.prog 150 #[] w (fun e w'=>e=.returned (.slice (some ⟨w.heap.size,0,none⟩) 29 29)∧w'=w.alloc (.cells (strs marks) 9)):=by
 go_enter Tryz.func150,Tryz.ntmps150;go_wp2;go_ret;exact⟨rfl,by simp[strs,marks]⟩
theorem MC (w:World) :
 Calls Tryz.prog 144 #[] w (fun e w'=>e=.returned (.slice (some ⟨w.heap.size,0,none⟩) 17 17)∧w'=w.alloc (.cells (strs words) 9)):=by
 go_enter Tryz.func144,Tryz.ntmps144;go_wp2;go_ret;exact⟨rfl,by simp[strs,words]⟩
theorem Gp (s:Bytes) (k:Nat) (m:Bytes) (hm:marks[k]? = some m) (hp:m.isPrefixOf s=true) (h:∀j,j<k→(h:j<marks.length)→(marks[j]).isPrefixOf s=false) :
  jv s=.ok (⟨3,0,m,0,0⟩,m.length):=by
 obtain⟨hk,hm⟩:=List.getElem?_eq_some_iff.1 hm
 have:marks.find? (fun m=>m.isPrefixOf s)=some m:=by
  rw[List.find?_eq_some_iff_getElem];refine⟨hp,k,hk,hm,fun j hj=>?_⟩;rw[h j hj (by omega)];rfl
 simp only[jv,this]
theorem Jl (s:Bytes) (h:∀j,j<29→(h:j<marks.length)→(marks[j]).isPrefixOf s=false):jv s=.error 60:=by
 have:marks.find? (fun m=>m.isPrefixOf s)=none:=by
  rw[List.find?_eq_none];intro m hm;obtain⟨j,hj,rfl⟩:=List.mem_iff_getElem.1 hm
  rw[h j hj hj];simp
 simp only[jv,this]
theorem Ou (s:Bytes) (w:World) :
 Calls Tryz.prog 102 #[.string ⟨s.toArray⟩] w (fun e w'=>e=.returned (dB (jv s))∧Fr [] w w'):=by
 have hml:Hid (marks.length=29):=rfl;go_enter Tryz.func102,Tryz.ntmps102
 go_wp2_with (go_at_call 150;refine(MB _).mono ?_;rintro e w' ⟨rfl,rfl⟩)
 generalize hM:strs marks=M;have HM:=Lib.hid hM;clear hM
 go_loop [9] (fun i=>∃k:Nat,i=.int .i64 k∧k≤29∧Hid (∀j,j<k→(h:j<marks.length)→(marks[j]).isPrefixOf s=false)) (fun i=>29-(intOf i).toNat)
 case atStart=>exact⟨0,rfl,by omega,fun j hj=>by omega⟩
 case round =>
  obtain⟨k,rfl,hk,hr⟩:=hrel
  by_cases hlt:k<29
  ·have hcell:M[k]? = some (.string ⟨(marks[k]'(by have:=hml.out;omega)).toArray⟩):=by rw[←HM.out];exact Ot marks k (by have:=hml.out;omega)
   have hmk:Hid (marks[k]? = some (marks[k]'(by have:=hml.out;omega))):=by show _=_;simp
   generalize (marks[k]'(by have:=hml.out;omega))=m at *;cases hp:m.isPrefixOf s
   ·have HP:=Lib.hid hp;clear hp
    go_wp2_with (go_at_call 97;refine(ji s m _).mono ?_;rintro e w' ⟨rfl,rfl⟩;rw[HP.out])
    refine⟨⟨k+1,by go_num,by omega,fun j hj h=>?_⟩,by simp[intOf];omega⟩;by_cases hjk:j=k
    ·subst hjk;have e1:=hmk.out;rw[List.getElem?_eq_getElem h]at e1
     rw[Option.some.inj e1];exact HP.out
    ·exact hr.out j (by omega) h
   ·have HF:=Lib.hid (Gp s k m hmk.out hp hr.out);have HP:=Lib.hid hp;clear hp
    go_wp2_with (go_at_call 97;refine(ji s m _).mono ?_;rintro e w' ⟨rfl,rfl⟩;rw[HP.out])
    refine bodyPost_ret (v:=dB (jv s)) (by rw[HF.out];simp[results,Tryz.results102,go_sem,dB,eU]) rfl ⟨rfl,?_⟩
    repeat (first|exact Fr.refl _ _|refine Fr.alloc ?_ _)
  ·obtain rfl:k=29:=by omega
   have HF:=Lib.hid (Jl s hr.out);go_wp2;refine bodyPost_ret (v:=dB (jv s)) (by rw[HF.out];simp[results,Tryz.results102,go_sem,dB,eU]) rfl ⟨rfl,?_⟩
   repeat (first|exact Fr.refl _ _|refine Fr.alloc ?_ _)
theorem pV (s:Bytes) (b:Int) (w:World) (hV:Vars w) (hs:s.length≤140737488351232) (h:bD s=.ok b) :
 Calls Tryz.prog 143 #[.string ⟨s.toArray⟩] w (fun e w'=>e=.returned (.tuple #[.int .u64 b,.int .i64 0])∧Fr [] w w'):=by
 have:=rY s w hV hs
 rw[h]at this
 exact this
theorem zK (s:Bytes) (c:Int) (w:World) (hV:Vars w) (hs:s.length≤140737488351232) (h:bD s=.error c) :
 Calls Tryz.prog 143 #[.string ⟨s.toArray⟩] w (fun e w'=>e=.returned (.tuple #[.int .u64 0,.int .i64 c])∧Fr [] w w'):=by
 have:=rY s w hV hs
 rw[h]at this
 exact this
theorem zL (ok:Bool) (l:List Nat) (p:Nat) (s:Bytes) (c:Int) (h:dF ok l p s=.error c):0<c:=by
 unfold dF at h
 repeat' split at h
 all_goals (first|(cases h;done)|(obtain rfl:=Except.error.inj h;decide))
theorem tV (s:Bytes) (c:Int) (h:jR s=.error c):0<c:=by
 unfold jR at h
 repeat' split at h
 all_goals exact zL _ _ _ _ _ h
theorem y5 (s:Bytes) (c:Int) (h:bD s=.error c):0<c:=by
 unfold bD at h
 repeat' split at h
 all_goals (first|(cases h;done)|exact tV _ _ h|(obtain rfl:=Except.error.inj h;decide)|skip)
 all_goals (rename_i hh;obtain rfl:=Except.error.inj h;exact tV _ _ hh)
theorem Ov (s:Bytes) (w:World) (hV:Vars w) (hs:s.length≤140737488351232) :
 Calls Tryz.prog 96 #[.string ⟨s.toArray⟩] w (fun e w'=>e=.returned (dB (gq s))∧Fr [] w w'):=by
 have hr:run jh s≤s.length:=EI _ _;by_cases h31:31<run jh s
 ·have HF:Hid (gq s=.error 63):=by show _=_;unfold gq;exact if_pos h31
  go_enter Tryz.func96,Tryz.ntmps96
  go_wp2_with (go_at_call 69;refine(tF s _ hs).mono ?_;rintro e w' ⟨rfl,rfl⟩)
  refine bodyPost_ret (v:=dB (gq s)) (by rw[HF.out];simp[results,Tryz.results96,go_sem,dB,eU]) rfl ⟨rfl,?_⟩
  repeat (first|exact Fr.refl _ _|refine Fr.alloc ?_ _)
 ·have HF:Hid (gq s=if s.take (run jh s)==[105,110,102]then .ok (⟨5,0,[],0,oQ⟩,run jh s)
   else if s.take (run jh s)==[110,97,110]then .ok (⟨5,0,[],0,wT⟩,run jh s)
   else if words.contains (s.take (run jh s))then .ok (⟨2,0,s.take (run jh s),0,0⟩,run jh s)
   else .ok (⟨1,0,s.take (run jh s),0,0⟩,run jh s)):=by show _=_;unfold gq;exact if_neg h31
  have hlen:(s.take (run jh s)).length≤31:=by simp;omega
  cases h1:(s.take (run jh s)==[105,110,102])
  ·cases h2:(s.take (run jh s)==[110,97,110])
   ·cases h3:words.contains (s.take (run jh s))
    all_goals
     rw[h1,h2,h3]at HF
     have H3:=Lib.hid h3;clear h3;go_enter Tryz.func96,Tryz.ntmps96
     go_wp2_with (go_at_call 69;refine(tF s _ hs).mono ?_;rintro e w' ⟨rfl,rfl⟩)
     go_region_with (first|(go_at_call 144;refine(MC _).mono ?_;rintro e w' ⟨rfl,rfl⟩)|(go_at_call 61;refine(fJ _ _ words _ (.inr ⟨_,_,rfl,by simp,by intro j hj;simp[go_sem,strs,hj]⟩) (by decide)).mono ?_;rintro e w' ⟨rfl,rfl⟩;rw[H3.out]))
     all_goals go_wp2
     all_goals (refine bodyPost_ret (v:=dB (gq s)) (by rw[HF.out];simp[results,Tryz.results96,go_sem,dB,eU]) rfl ⟨rfl,?_⟩)
     all_goals (repeat (first|exact Fr.refl _ _|refine Fr.alloc ?_ _|refine Fr.drew ?_))
   ·have hp:bD (s.take (run jh s))=.ok wT:=by rw[beq_iff_eq.1 h2];rfl
    have HP:=Lib.hid hp;clear hp;rw[h1,h2]at HF
    go_enter Tryz.func96,Tryz.ntmps96
    go_wp2_with (first|(go_at_call 69;refine(tF s _ hs).mono ?_;rintro e w' ⟨rfl,rfl⟩)|(go_at_call 143;refine(pV _ wT _ (hV.fr (((Fr.refl [] _).alloc _).alloc _) (by simp)) (by simp;omega) HP.out).mono ?_;rintro e w1 ⟨rfl,hf⟩;obtain⟨hc,hz,hset,hb⟩:=(((au.new w _ _).alloc _).fr hf (by simp)).rules;obtain⟨hc2,hz2,Ow,hb2⟩:=((au.new (w.alloc (EK ⟨0,0,[],0,0⟩)) _ _).fr hf (by simp)).rules;simp only[World.size_alloc]at hc2 hz2 Ow hb2))
    refine bodyPost_ret (v:=dB (gq s)) (by rw[HF.out];simp[results,Tryz.results96,go_sem,dB,eU,hb,hb2]) rfl ⟨rfl,?_⟩
    repeat (first|exact(((Fr.refl _ _).alloc _).alloc _).trans hf|refine Fr.blk ?_ (.inr (by simp)) _ _)
  ·have hp:bD (s.take (run jh s))=.ok oQ:=by rw[beq_iff_eq.1 h1];rfl
   have HP:=Lib.hid hp;clear hp;rw[h1]at HF
   go_enter Tryz.func96,Tryz.ntmps96
   go_wp2_with (first|(go_at_call 69;refine(tF s _ hs).mono ?_;rintro e w' ⟨rfl,rfl⟩)|(go_at_call 143;refine(pV _ oQ _ (hV.fr (((Fr.refl [] _).alloc _).alloc _) (by simp)) (by simp;omega) HP.out).mono ?_;rintro e w1 ⟨rfl,hf⟩;obtain⟨hc,hz,hset,hb⟩:=(((au.new w _ _).alloc _).fr hf (by simp)).rules;obtain⟨hc2,hz2,Ow,hb2⟩:=((au.new (w.alloc (EK ⟨0,0,[],0,0⟩)) _ _).fr hf (by simp)).rules;simp only[World.size_alloc]at hc2 hz2 Ow hb2))
   refine bodyPost_ret (v:=dB (gq s)) (by rw[HF.out];simp[results,Tryz.results96,go_sem,dB,eU,hb,hb2]) rfl ⟨rfl,?_⟩
   repeat (first|exact(((Fr.refl _ _).alloc _).alloc _).trans hf|refine Fr.blk ?_ (.inr (by simp)) _ _)
theorem EL (s:Bytes) (b:Int) (h:bD (s.take (bW s))=.ok b):aP s=.ok (⟨5,0,[],0,b⟩,bW s):=by
 simp only[aP,h]
theorem CJ (s:Bytes) (c:Int) (h:bD (s.take (bW s))=.error c):aP s=.error 62:=by
 simp only[aP,h]
theorem drop_at {s:Bytes} {n:Nat} (h:n<s.length):s.drop n=s[n]::s.drop (n+1):=List.drop_eq_getElem_cons h
theorem Lj {c:UInt8} {n:Nat} (hn:n<256):(((c.toNat:Int)==(n:Int))=true)↔c=UInt8.ofNat n:=by
 rw[beq_iff_eq,←UInt8.toNat_inj];simp[UInt8.toNat_ofNat'];omega
theorem Ox {c:UInt8} {n:Nat} (hn:n<256) (h:((c.toNat:Int)==(n:Int))=false):c≠UInt8.ofNat n:=by
 intro e;rw[(Lj hn).2 e]at h
 cases h
abbrev fK (s:Bytes):Nat:=run nL (s.drop 2)
theorem Oy (s:Bytes) (h:s.length≤2+fK s):bW s=2+fK s:=by
 unfold bW;show(match s.drop (2+fK s) with|112::r=>_|_=>_)=_
 rw[List.drop_eq_nil_of_le h];rfl
theorem Oz (s:Bytes) (h:2+fK s<s.length) (hp:((s[2+fK s].toNat:Int)==112)=false):bW s=2+fK s:=by
 have hne:=Ox (n:=112) (by omega) hp;unfold bW;show(match s.drop (2+fK s) with|112::r=>_|_=>_)=_
 rw[drop_at h];split
 ·rename_i r heq;exact absurd (List.cons.inj heq).1 hne
 ·rfl
theorem TD (s:Bytes) (h:2+fK s<s.length) (hp:((s[2+fK s].toNat:Int)==112)=true):bW s=match s.drop (2+fK s+1) with
  | c::r'=>if c==43||c==45 then 2+fK s+2+run digit r' else 2+fK s+1+run digit (s.drop (2+fK s+1))
  | []=>2+fK s+1:=by
 have he:=(Lj (n:=112) (by omega)).1 hp;unfold bW;show(match s.drop (2+fK s) with|112::r=>_|_=>_)=_
 rw[drop_at h,he];rfl
theorem zi (s:Bytes) (h:2+fK s+1<s.length) (hp:((s[2+fK s].toNat:Int)==112)=true) (hs:((s[2+fK s+1].toNat:Int)==43)=true∨((s[2+fK s+1].toNat:Int)==45)=true) :
  bW s=2+fK s+2+run digit (s.drop (2+fK s+2)):=by
 rw[TD s (by omega) hp,drop_at h]
 have:(s[2+fK s+1]==43||s[2+fK s+1]==45)=true:=by
  rcases hs with hs|hs
  ·rw[(Lj (n:=43) (by omega)).1 hs];rfl
  ·rw[(Lj (n:=45) (by omega)).1 hs];rfl
 simp only[this,if_true]
theorem Dz (s:Bytes) (h:2+fK s+1<s.length) (hp:((s[2+fK s].toNat:Int)==112)=true) (h1:((s[2+fK s+1].toNat:Int)==43)=false) (h2:((s[2+fK s+1].toNat:Int)==45)=false) :
  bW s=2+fK s+1+run digit (s.drop (2+fK s+1)):=by
 rw[TD s (by omega) hp,drop_at h];have h1':=Ox (n:=43) (by omega) h1;have h2':=Ox (n:=45) (by omega) h2
 have:(s[2+fK s+1]==43||s[2+fK s+1]==45)=false:=by
  simp only[Bool.or_eq_false_iff,beq_eq_false_iff_ne];exact⟨h1',h2'⟩
 simp only[this];rw[←drop_at h];rfl
theorem Ll (s:Bytes) (h:2+fK s<s.length) (h':s.length≤2+fK s+1) (hp:((s[2+fK s].toNat:Int)==112)=true):bW s=2+fK s+1:=by
 rw[TD s h hp,List.drop_eq_nil_of_le h']
theorem Vi (s:Bytes) (h:2≤s.length):2+fK s≤s.length:=by
 have:=EI nL (s.drop 2);simp at this;unfold fK;omega
theorem kN (p:UInt8→Bool) (s:Bytes) (n:Nat) (h:n≤s.length):n+run p (s.drop n)≤s.length:=by
 have:=EI p (s.drop n);simp at this;omega
abbrev jN (f:Nat) (s:Bytes) (a:Int) (r:Nat):Prop:=∀W:World,Calls Tryz.prog 69 #[.string ⟨s.toArray⟩,.int .i64 a,.func (.func f) #[] #[]] W (fun e w'=>e=.returned (.int .i64 r)∧W=w')
abbrev vI (t:Bytes) (r c:Int):Prop:=∀W:World,Vars W→Calls Tryz.prog 143 #[.string ⟨t.toArray⟩] W (fun e w'=>e=.returned (.tuple #[.int .u64 r,.int .i64 c])∧Fr [] W w')
def fH (s:Bytes) (w:World):Prop:=Calls Tryz.prog 98 #[.string ⟨s.toArray⟩] w (fun e w'=>e=.returned (dB (aP s))∧Fr [] w w')
theorem Jm (s:Bytes) (w:World) (hV:Vars w) (R  D:Nat) (b:Int)  (hs:s.length≤140737488351232) (h1:2+R≤s.length) (h1r:s.length≤2+R)
  (HR:jN 146 s 2 R)  (HP:vI (s.take D) b 0) (HF:Hid (aP s=.ok (⟨5,0,[],0,b⟩,D))) (hD:D=2+R):fH s w:=by
 subst hD;have HR:=Lib.hid HR;have HP:=Lib.hid HP;go_enter Tryz.func98,Tryz.ntmps98
 go_wp2_with (first|(go_at_call 143;refine(HP.out _ (hV.fr ((Fr.refl [] _).alloc _) (by simp))).mono ?_;rintro e w1 ⟨rfl,hf⟩;obtain⟨hc,hz,hset,hb⟩:=((au.new w _ _).fr hf (by simp)).rules)|(go_at_call 69;with_reducible refine(HR.out _).mono ?_;rintro e w' ⟨rfl,rfl⟩))
 all_goals (refine bodyPost_ret (v:=dB (aP s)) (by rw[HF.out];simp[results,Tryz.results98,go_sem,dB,eU,hb]) rfl ⟨rfl,?_⟩)
 all_goals (repeat (first|exact((Fr.refl _ _).alloc _).trans hf|refine Fr.blk ?_ (.inr (by simp)) _ _))
theorem Gq (s:Bytes) (w:World) (hV:Vars w) (R  D:Nat)  (c:Int) (hc0:0<c) (hs:s.length≤140737488351232) (h1:2+R≤s.length) (h1r:s.length≤2+R)
  (HR:jN 146 s 2 R)  (HP:vI (s.take D) 0 c) (HF:Hid (aP s=.error 62)) (hD:D=2+R):fH s w:=by
 subst hD;have HR:=Lib.hid HR;have HP:=Lib.hid HP;go_enter Tryz.func98,Tryz.ntmps98
 go_wp2_with (first|(go_at_call 143;refine(HP.out _ (hV.fr ((Fr.refl [] _).alloc _) (by simp))).mono ?_;rintro e w1 ⟨rfl,hf⟩;obtain⟨hc,hz,hset,hb⟩:=((au.new w _ _).fr hf (by simp)).rules)|(go_at_call 69;with_reducible refine(HR.out _).mono ?_;rintro e w' ⟨rfl,rfl⟩))
 all_goals (refine bodyPost_ret (v:=dB (aP s)) (by rw[HF.out];simp[results,Tryz.results98,go_sem,dB,eU,hb]) rfl ⟨rfl,?_⟩)
 all_goals (repeat (first|exact((Fr.refl _ _).alloc _).trans hf|refine Fr.blk ?_ (.inr (by simp)) _ _))
theorem Jo (s:Bytes) (w:World) (hV:Vars w) (R  D:Nat) (b:Int)  (hs:s.length≤140737488351232) (h1:2+R<s.length) (hp:((s[2+R].toNat:Int)==112)=false)
  (HR:jN 146 s 2 R)  (HP:vI (s.take D) b 0) (HF:Hid (aP s=.ok (⟨5,0,[],0,b⟩,D))) (hD:D=2+R):fH s w:=by
 subst hD;have HR:=Lib.hid HR;have HP:=Lib.hid HP;go_enter Tryz.func98,Tryz.ntmps98
 go_wp2_with (first|(go_at_call 143;refine(HP.out _ (hV.fr ((Fr.refl [] _).alloc _) (by simp))).mono ?_;rintro e w1 ⟨rfl,hf⟩;obtain⟨hc,hz,hset,hb⟩:=((au.new w _ _).fr hf (by simp)).rules)|(go_at_call 69;with_reducible refine(HR.out _).mono ?_;rintro e w' ⟨rfl,rfl⟩))
 all_goals (refine bodyPost_ret (v:=dB (aP s)) (by rw[HF.out];simp[results,Tryz.results98,go_sem,dB,eU,hb]) rfl ⟨rfl,?_⟩)
 all_goals (repeat (first|exact((Fr.refl _ _).alloc _).trans hf|refine Fr.blk ?_ (.inr (by simp)) _ _))
theorem Gs (s:Bytes) (w:World) (hV:Vars w) (R  D:Nat)  (c:Int) (hc0:0<c) (hs:s.length≤140737488351232) (h1:2+R<s.length) (hp:((s[2+R].toNat:Int)==112)=false)
  (HR:jN 146 s 2 R)  (HP:vI (s.take D) 0 c) (HF:Hid (aP s=.error 62)) (hD:D=2+R):fH s w:=by
 subst hD;have HR:=Lib.hid HR;have HP:=Lib.hid HP;go_enter Tryz.func98,Tryz.ntmps98
 go_wp2_with (first|(go_at_call 143;refine(HP.out _ (hV.fr ((Fr.refl [] _).alloc _) (by simp))).mono ?_;rintro e w1 ⟨rfl,hf⟩;obtain⟨hc,hz,hset,hb⟩:=((au.new w _ _).fr hf (by simp)).rules)|(go_at_call 69;with_reducible refine(HR.out _).mono ?_;rintro e w' ⟨rfl,rfl⟩))
 all_goals (refine bodyPost_ret (v:=dB (aP s)) (by rw[HF.out];simp[results,Tryz.results98,go_sem,dB,eU,hb]) rfl ⟨rfl,?_⟩)
 all_goals (repeat (first|exact((Fr.refl _ _).alloc _).trans hf|refine Fr.blk ?_ (.inr (by simp)) _ _))
theorem Gt (s:Bytes) (w:World) (hV:Vars w) (R Q D:Nat) (b:Int)  (hs:s.length≤140737488351232) (h1:2+R+1<s.length) (hQ:2+R+2+Q≤s.length) (hp:((s[2+R].toNat:Int)==112)=true) (h43:((s[2+R+1].toNat:Int)==43)=true)
  (HR:jN 146 s 2 R) (HQ:jN 99 s (2+R+1+1) Q) (HP:vI (s.take D) b 0) (HF:Hid (aP s=.ok (⟨5,0,[],0,b⟩,D))) (hD:D=2+R+1+1+Q):fH s w:=by
 subst hD;have HR:=Lib.hid HR;have HP:=Lib.hid HP;have HQ:=Lib.hid HQ;go_enter Tryz.func98,Tryz.ntmps98
 go_wp2_with (first|(go_at_call 143;refine(HP.out _ (hV.fr ((Fr.refl [] _).alloc _) (by simp))).mono ?_;rintro e w1 ⟨rfl,hf⟩;obtain⟨hc,hz,hset,hb⟩:=((au.new w _ _).fr hf (by simp)).rules)|(go_at_call 69;first|((with_reducible refine(HQ.out _).mono ?_);rintro e w' ⟨rfl,rfl⟩)|((with_reducible refine(HR.out _).mono ?_);rintro e w' ⟨rfl,rfl⟩)))
 all_goals (refine bodyPost_ret (v:=dB (aP s)) (by rw[HF.out];simp[results,Tryz.results98,go_sem,dB,eU,hb]) rfl ⟨rfl,?_⟩)
 all_goals (repeat (first|exact((Fr.refl _ _).alloc _).trans hf|refine Fr.blk ?_ (.inr (by simp)) _ _))
theorem EM (s:Bytes) (w:World) (hV:Vars w) (R Q D:Nat)  (c:Int) (hc0:0<c) (hs:s.length≤140737488351232) (h1:2+R+1<s.length) (hQ:2+R+2+Q≤s.length) (hp:((s[2+R].toNat:Int)==112)=true) (h43:((s[2+R+1].toNat:Int)==43)=true)
  (HR:jN 146 s 2 R) (HQ:jN 99 s (2+R+1+1) Q) (HP:vI (s.take D) 0 c) (HF:Hid (aP s=.error 62)) (hD:D=2+R+1+1+Q):fH s w:=by
 subst hD;have HR:=Lib.hid HR;have HP:=Lib.hid HP;have HQ:=Lib.hid HQ;go_enter Tryz.func98,Tryz.ntmps98
 go_wp2_with (first|(go_at_call 143;refine(HP.out _ (hV.fr ((Fr.refl [] _).alloc _) (by simp))).mono ?_;rintro e w1 ⟨rfl,hf⟩;obtain⟨hc,hz,hset,hb⟩:=((au.new w _ _).fr hf (by simp)).rules)|(go_at_call 69;first|((with_reducible refine(HQ.out _).mono ?_);rintro e w' ⟨rfl,rfl⟩)|((with_reducible refine(HR.out _).mono ?_);rintro e w' ⟨rfl,rfl⟩)))
 all_goals (refine bodyPost_ret (v:=dB (aP s)) (by rw[HF.out];simp[results,Tryz.results98,go_sem,dB,eU,hb]) rfl ⟨rfl,?_⟩)
 all_goals (repeat (first|exact((Fr.refl _ _).alloc _).trans hf|refine Fr.blk ?_ (.inr (by simp)) _ _))
theorem EN (s:Bytes) (w:World) (hV:Vars w) (R Q D:Nat) (b:Int)  (hs:s.length≤140737488351232) (h1:2+R+1<s.length) (hQ:2+R+2+Q≤s.length) (hp:((s[2+R].toNat:Int)==112)=true) (h43:((s[2+R+1].toNat:Int)==43)=false) (h45:((s[2+R+1].toNat:Int)==45)=true)
  (HR:jN 146 s 2 R) (HQ:jN 99 s (2+R+1+1) Q) (HP:vI (s.take D) b 0) (HF:Hid (aP s=.ok (⟨5,0,[],0,b⟩,D))) (hD:D=2+R+1+1+Q):fH s w:=by
 subst hD;have HR:=Lib.hid HR;have HP:=Lib.hid HP;have HQ:=Lib.hid HQ;go_enter Tryz.func98,Tryz.ntmps98
 go_wp2_with (first|(go_at_call 143;refine(HP.out _ (hV.fr ((Fr.refl [] _).alloc _) (by simp))).mono ?_;rintro e w1 ⟨rfl,hf⟩;obtain⟨hc,hz,hset,hb⟩:=((au.new w _ _).fr hf (by simp)).rules)|(go_at_call 69;first|((with_reducible refine(HQ.out _).mono ?_);rintro e w' ⟨rfl,rfl⟩)|((with_reducible refine(HR.out _).mono ?_);rintro e w' ⟨rfl,rfl⟩)))
 all_goals (refine bodyPost_ret (v:=dB (aP s)) (by rw[HF.out];simp[results,Tryz.results98,go_sem,dB,eU,hb]) rfl ⟨rfl,?_⟩)
 all_goals (repeat (first|exact((Fr.refl _ _).alloc _).trans hf|refine Fr.blk ?_ (.inr (by simp)) _ _))
theorem CO (s:Bytes) (w:World) (hV:Vars w) (R Q D:Nat)  (c:Int) (hc0:0<c) (hs:s.length≤140737488351232) (h1:2+R+1<s.length) (hQ:2+R+2+Q≤s.length) (hp:((s[2+R].toNat:Int)==112)=true) (h43:((s[2+R+1].toNat:Int)==43)=false) (h45:((s[2+R+1].toNat:Int)==45)=true)
  (HR:jN 146 s 2 R) (HQ:jN 99 s (2+R+1+1) Q) (HP:vI (s.take D) 0 c) (HF:Hid (aP s=.error 62)) (hD:D=2+R+1+1+Q):fH s w:=by
 subst hD;have HR:=Lib.hid HR;have HP:=Lib.hid HP;have HQ:=Lib.hid HQ;go_enter Tryz.func98,Tryz.ntmps98
 go_wp2_with (first|(go_at_call 143;refine(HP.out _ (hV.fr ((Fr.refl [] _).alloc _) (by simp))).mono ?_;rintro e w1 ⟨rfl,hf⟩;obtain⟨hc,hz,hset,hb⟩:=((au.new w _ _).fr hf (by simp)).rules)|(go_at_call 69;first|((with_reducible refine(HQ.out _).mono ?_);rintro e w' ⟨rfl,rfl⟩)|((with_reducible refine(HR.out _).mono ?_);rintro e w' ⟨rfl,rfl⟩)))
 all_goals (refine bodyPost_ret (v:=dB (aP s)) (by rw[HF.out];simp[results,Tryz.results98,go_sem,dB,eU,hb]) rfl ⟨rfl,?_⟩)
 all_goals (repeat (first|exact((Fr.refl _ _).alloc _).trans hf|refine Fr.blk ?_ (.inr (by simp)) _ _))
theorem CP (s:Bytes) (w:World) (hV:Vars w) (R Q D:Nat) (b:Int)  (hs:s.length≤140737488351232) (h1:2+R+1<s.length) (hQ:2+R+1+Q≤s.length) (hp:((s[2+R].toNat:Int)==112)=true) (h43:((s[2+R+1].toNat:Int)==43)=false) (h45:((s[2+R+1].toNat:Int)==45)=false)
  (HR:jN 146 s 2 R) (HQ:jN 99 s (2+R+1) Q) (HP:vI (s.take D) b 0) (HF:Hid (aP s=.ok (⟨5,0,[],0,b⟩,D))) (hD:D=2+R+1+Q):fH s w:=by
 subst hD;have HR:=Lib.hid HR;have HP:=Lib.hid HP;have HQ:=Lib.hid HQ;go_enter Tryz.func98,Tryz.ntmps98
 go_wp2_with (first|(go_at_call 143;refine(HP.out _ (hV.fr ((Fr.refl [] _).alloc _) (by simp))).mono ?_;rintro e w1 ⟨rfl,hf⟩;obtain⟨hc,hz,hset,hb⟩:=((au.new w _ _).fr hf (by simp)).rules)|(go_at_call 69;first|((with_reducible refine(HQ.out _).mono ?_);rintro e w' ⟨rfl,rfl⟩)|((with_reducible refine(HR.out _).mono ?_);rintro e w' ⟨rfl,rfl⟩)))
 all_goals (refine bodyPost_ret (v:=dB (aP s)) (by rw[HF.out];simp[results,Tryz.results98,go_sem,dB,eU,hb]) rfl ⟨rfl,?_⟩)
 all_goals (repeat (first|exact((Fr.refl _ _).alloc _).trans hf|refine Fr.blk ?_ (.inr (by simp)) _ _))
theorem zM (s:Bytes) (w:World) (hV:Vars w) (R Q D:Nat)  (c:Int) (hc0:0<c) (hs:s.length≤140737488351232) (h1:2+R+1<s.length) (hQ:2+R+1+Q≤s.length) (hp:((s[2+R].toNat:Int)==112)=true) (h43:((s[2+R+1].toNat:Int)==43)=false) (h45:((s[2+R+1].toNat:Int)==45)=false)
  (HR:jN 146 s 2 R) (HQ:jN 99 s (2+R+1) Q) (HP:vI (s.take D) 0 c) (HF:Hid (aP s=.error 62)) (hD:D=2+R+1+Q):fH s w:=by
 subst hD;have HR:=Lib.hid HR;have HP:=Lib.hid HP;have HQ:=Lib.hid HQ;go_enter Tryz.func98,Tryz.ntmps98
 go_wp2_with (first|(go_at_call 143;refine(HP.out _ (hV.fr ((Fr.refl [] _).alloc _) (by simp))).mono ?_;rintro e w1 ⟨rfl,hf⟩;obtain⟨hc,hz,hset,hb⟩:=((au.new w _ _).fr hf (by simp)).rules)|(go_at_call 69;first|((with_reducible refine(HQ.out _).mono ?_);rintro e w' ⟨rfl,rfl⟩)|((with_reducible refine(HR.out _).mono ?_);rintro e w' ⟨rfl,rfl⟩)))
 all_goals (refine bodyPost_ret (v:=dB (aP s)) (by rw[HF.out];simp[results,Tryz.results98,go_sem,dB,eU,hb]) rfl ⟨rfl,?_⟩)
 all_goals (repeat (first|exact((Fr.refl _ _).alloc _).trans hf|refine Fr.blk ?_ (.inr (by simp)) _ _))
theorem Gu (s:Bytes) (w:World) (hV:Vars w) (R  D:Nat) (b:Int)  (hs:s.length≤140737488351232) (h1:2+R<s.length) (h1r:s.length≤2+R+1) (hp:((s[2+R].toNat:Int)==112)=true)
  (HR:jN 146 s 2 R) (HQ:jN 99 s (2+R+1) 0) (HP:vI (s.take D) b 0) (HF:Hid (aP s=.ok (⟨5,0,[],0,b⟩,D))) (hD:D=2+R+1):fH s w:=by
 subst hD;have HR:=Lib.hid HR;have HP:=Lib.hid HP;have HQ:=Lib.hid HQ;go_enter Tryz.func98,Tryz.ntmps98
 go_wp2_with (first|(go_at_call 143;refine(HP.out _ (hV.fr ((Fr.refl [] _).alloc _) (by simp))).mono ?_;rintro e w1 ⟨rfl,hf⟩;obtain⟨hc,hz,hset,hb⟩:=((au.new w _ _).fr hf (by simp)).rules)|(go_at_call 69;first|((with_reducible refine(HQ.out _).mono ?_);rintro e w' ⟨rfl,rfl⟩)|((with_reducible refine(HR.out _).mono ?_);rintro e w' ⟨rfl,rfl⟩)))
 all_goals (refine bodyPost_ret (v:=dB (aP s)) (by rw[HF.out];simp[results,Tryz.results98,go_sem,dB,eU,hb]) rfl ⟨rfl,?_⟩)
 all_goals (repeat (first|exact((Fr.refl _ _).alloc _).trans hf|refine Fr.blk ?_ (.inr (by simp)) _ _))
theorem EO (s:Bytes) (w:World) (hV:Vars w) (R  D:Nat)  (c:Int) (hc0:0<c) (hs:s.length≤140737488351232) (h1:2+R<s.length) (h1r:s.length≤2+R+1) (hp:((s[2+R].toNat:Int)==112)=true)
  (HR:jN 146 s 2 R) (HQ:jN 99 s (2+R+1) 0) (HP:vI (s.take D) 0 c) (HF:Hid (aP s=.error 62)) (hD:D=2+R+1):fH s w:=by
 subst hD;have HR:=Lib.hid HR;have HP:=Lib.hid HP;have HQ:=Lib.hid HQ;go_enter Tryz.func98,Tryz.ntmps98
 go_wp2_with (first|(go_at_call 143;refine(HP.out _ (hV.fr ((Fr.refl [] _).alloc _) (by simp))).mono ?_;rintro e w1 ⟨rfl,hf⟩;obtain⟨hc,hz,hset,hb⟩:=((au.new w _ _).fr hf (by simp)).rules)|(go_at_call 69;first|((with_reducible refine(HQ.out _).mono ?_);rintro e w' ⟨rfl,rfl⟩)|((with_reducible refine(HR.out _).mono ?_);rintro e w' ⟨rfl,rfl⟩)))
 all_goals (refine bodyPost_ret (v:=dB (aP s)) (by rw[HF.out];simp[results,Tryz.results98,go_sem,dB,eU,hb]) rfl ⟨rfl,?_⟩)
 all_goals (repeat (first|exact((Fr.refl _ _).alloc _).trans hf|refine Fr.blk ?_ (.inr (by simp)) _ _))
theorem Jp (s:Bytes) (w:World) (hV:Vars w) (hs:s.length≤140737488351232) (h2:2≤s.length) :
 Calls Tryz.prog 98 #[.string ⟨s.toArray⟩] w (fun e w'=>e=.returned (dB (aP s))∧Fr [] w w'):=by
 show fH s w;have hle:=Vi s h2;have HR:jN 146 s 2 (fK s):=fun W=>Rm s 2 W hs h2
 have HQ:∀n:Nat,n≤s.length→jN 99 s n (run digit (s.drop n)):=fun n hn W=>DC s n W hs hn
 have e1:((2+fK s+1:Nat):Int)=2+(fK s:Int)+1:=by omega
 have e2:((2+fK s+2:Nat):Int)=2+(fK s:Int)+(1+1):=by omega
 have hlen:(s.take (bW s)).length≤140737488351232:=by simp;omega
 cases hp:bD (s.take (bW s)) with
 | ok b =>
  have HP:vI (s.take (bW s)) b 0:=fun W hW=>pV _ b W hW hlen hp
  have HF:Hid (aP s=.ok (⟨5,0,[],0,b⟩,bW s)):=EL s b hp;by_cases hlt:2+fK s<s.length
  ·cases h112:((s[2+fK s].toNat:Int)==112)
   ·exact Jo s w hV _ _ b hs hlt h112 HR HP HF (Oz s hlt h112)
   ·by_cases hlt2:2+fK s+1<s.length
    ·cases h43:((s[2+fK s+1].toNat:Int)==43)
     ·cases h45:((s[2+fK s+1].toNat:Int)==45)
      ·exact CP s w hV _ _ _ b hs hlt2 (kN _ _ _ (by omega)) h112 h43 h45 HR (e1 ▸ HQ _ (by omega)) HP HF (Dz s hlt2 h112 h43 h45)
      ·exact EN s w hV _ _ _ b hs hlt2 (kN _ _ _ (by omega)) h112 h43 h45 HR (e2 ▸ HQ _ (by omega)) HP HF (zi s hlt2 h112 (.inr h45))
     ·exact Gt s w hV _ _ _ b hs hlt2 (kN _ _ _ (by omega)) h112 h43 HR (e2 ▸ HQ _ (by omega)) HP HF (zi s hlt2 h112 (.inl h43))
    ·have hQ:=HQ (2+fK s+1) (by omega);rw[List.drop_eq_nil_of_le (by omega),e1]at hQ
     exact Gu s w hV _ _ b hs hlt (by omega) h112 HR hQ HP HF (Ll s hlt (by omega) h112)
  ·exact Jm s w hV _ _ b hs (by omega) (by omega) HR HP HF (Oy s (by omega))
 | error c =>
  have hc0:=y5 _ _ hp;have HP:vI (s.take (bW s)) 0 c:=fun W hW=>zK _ c W hW hlen hp
  have HF:Hid (aP s=.error 62):=CJ s c hp;by_cases hlt:2+fK s<s.length
  ·cases h112:((s[2+fK s].toNat:Int)==112)
   ·exact Gs s w hV _ _ c hc0 hs hlt h112 HR HP HF (Oz s hlt h112)
   ·by_cases hlt2:2+fK s+1<s.length
    ·cases h43:((s[2+fK s+1].toNat:Int)==43)
     ·cases h45:((s[2+fK s+1].toNat:Int)==45)
      ·exact zM s w hV _ _ _ c hc0 hs hlt2 (kN _ _ _ (by omega)) h112 h43 h45 HR (e1 ▸ HQ _ (by omega)) HP HF (Dz s hlt2 h112 h43 h45)
      ·exact CO s w hV _ _ _ c hc0 hs hlt2 (kN _ _ _ (by omega)) h112 h43 h45 HR (e2 ▸ HQ _ (by omega)) HP HF (zi s hlt2 h112 (.inr h45))
     ·exact EM s w hV _ _ _ c hc0 hs hlt2 (kN _ _ _ (by omega)) h112 h43 HR (e2 ▸ HQ _ (by omega)) HP HF (zi s hlt2 h112 (.inl h43))
    ·have hQ:=HQ (2+fK s+1) (by omega);rw[List.drop_eq_nil_of_le (by omega),e1]at hQ
     exact EO s w hV _ _ c hc0 hs hlt (by omega) h112 HR hQ HP HF (Ll s hlt (by omega) h112)
  ·exact Gq s w hV _ _ c hc0 hs (by omega) (by omega) HR HP HF (Oy s (by omega))
theorem Tryz.infoU8:(Tryz.prog.info? 5).map (fun i=>(i.zero,i.size,i.bytes))=some (some (.int .u8 0),1,1):=by kernel_rfl
def mY (s:Bytes):LR:=aS (s.drop 1) [] 1
def EP (s:Bytes) (w:World) (v:Value) (k:Nat) (acc:Bytes) (wr:World):Prop :=
 1≤k∧k≤s.length∧wr.ownsRow (w.heap.size+1) 5 1 v acc.length (dJ acc)∧acc.length≤k∧au wr w.heap.size #[.int .i64 0,.int .i64 0,.string ⟨#[]⟩,.int .i64 0,.int .u64 0] 82∧Fr [] w wr ∧
 aS (s.drop k) acc k=mY s
theorem EP.grow {s:Bytes} {w:World} {v v':Value} {k k':Nat} {acc:Bytes} {wr w':World} {c:UInt8} (h:EP s w v k acc wr) (o:Obj)
  (hown:w'.ownsRow (w.heap.size+1) 5 1 v' (acc.length+1) (dJ acc++[.int .u8 c.toNat])) (hg:(wr.alloc o).grownBy w' v.ownBlock)
  (hk:k<k') (hk':k'≤s.length) (hq:aS (s.drop k') (acc++[c]) k'=aS (s.drop k) acc k):EP s w v' k' (acc++[c]) w':=by
 obtain⟨h1,h2,h3,h4,h5,h6,h7⟩:=h
 have hlt:=h3.lt;refine⟨by omega,hk',?_,by simp;omega,(h5.alloc o).grown hg (fun e=>by have:=(hlt _ e).1;omega),(h6.alloc o).grown hg (fun k e=>.inr (by have:=(hlt _ e).1;omega)),hq.trans h7⟩;rw[←Jq];simpa using hown
theorem u8b (c m:UInt8) (N:Int) (h:N=m.toNat):((c.toNat:Int)==N)=(c==m):=by
 subst h;rw[Bool.eq_iff_iff,beq_iff_eq,beq_iff_eq,←UInt8.toNat_inj];omega
section
variable (b:Bytes) (n:Nat) (s:Bytes) (c d:UInt8)
theorem TF (h:((c.toNat:Int)==34)=true):aS (c::s) b n=.ok (⟨6,0,b,0,0⟩,n+1):=by
 rw[u8b c 34 34 rfl]at h
 rw[aS.eq_def];simp only[h,if_true]
theorem OA (h:((c.toNat:Int)==34)=false) (h9:((c.toNat:Int) != 92)=true) (h1:32≤(c.toNat:Int)) (h2:(c.toNat:Int)≤126):aS (c::s) b n=aS s (b++[c]) (n+1):=by
 rw[u8b c 34 34 rfl]at h
 have h9':(c != 92)=true:=by rw[bne,←u8b c 92 92 rfl];exact h9
 have e:(c != 92&&Nat.ble 32 c.toNat&&Nat.ble c.toNat 126)=true:=by
  simp only[h9',nM,Bool.true_and,Bool.and_eq_true,decide_eq_true_eq];omega
 rw[aS.eq_def];simp only[h,e,if_true];rfl
theorem TG (h:((c.toNat:Int)==34)=false) (h9:((c.toNat:Int) != 92)=true) (h1:(c.toNat:Int)<32∨126<(c.toNat:Int)):aS (c::s) b n=.error 61:=by
 rw[u8b c 34 34 rfl]at h
 have h9':(c != 92)=true:=by rw[bne,←u8b c 92 92 rfl];exact h9
 have e:(Nat.ble 32 c.toNat&&Nat.ble c.toNat 126)=false:=by
  simp only[nM,Bool.and_eq_false_iff,decide_eq_false_iff_not];omega
 rw[aS.eq_def];simp only[h,h9',Bool.true_and,e];rfl
theorem TH (h9:((c.toNat:Int)==92)=true):aS [c] b n=.error 61:=by
 rw[u8b c 92 92 rfl]at h9
 obtain rfl:=beq_iff_eq.1 h9;rfl
theorem OB (h9:((c.toNat:Int)==92)=true) (hd:((d.toNat:Int)==92)=true∨((d.toNat:Int)==34)=true):aS (c::d::s) b n=aS s (b++[d]) (n+2):=by
 rw[u8b c 92 92 rfl]at h9
 rw[u8b d 92 92 rfl,u8b d 34 34 rfl]at hd
 obtain rfl:=beq_iff_eq.1 h9;have e:(d==92||d==34)=true:=by rcases hd with hd|hd<;>simp[beq_iff_eq.1 hd]
 rw[aS.eq_def];simp only[e];rfl
theorem Vj (h9:((c.toNat:Int)==92)=true) (hd:((d.toNat:Int)==110)=true):aS (c::d::s) b n=aS s (b++[10]) (n+2):=by
 rw[u8b c 92 92 rfl]at h9
 rw[u8b d 110 110 rfl]at hd
 obtain rfl:=beq_iff_eq.1 h9;obtain rfl:=beq_iff_eq.1 hd;rw[aS.eq_def];rfl
theorem TI (x y:UInt8) (h9:((c.toNat:Int)==92)=true) (hd:((d.toNat:Int)==120)=true) (hx:lM x=true) (hy:lM y=true) :
  aS (c::d::x::y::s) b n=aS s (b++[UInt8.ofNat (tK x*16+tK y)]) (n+4):=by
 rw[u8b c 92 92 rfl]at h9
 rw[u8b d 120 120 rfl]at hd
 obtain rfl:=beq_iff_eq.1 h9;obtain rfl:=beq_iff_eq.1 hd;rw[aS.eq_def];simp only[hx,hy];rfl
theorem Rn (h9:((c.toNat:Int)==92)=true) (h1:((d.toNat:Int)==92)=false) (h2:((d.toNat:Int)==34)=false) (h3:((d.toNat:Int)==110)=false)
  (h:∀x y s',s=x::y::s'→(((d.toNat:Int)==120)&&lM x&&lM y)=false):aS (c::d::s) b n=.error 61:=by
 rw[u8b c 92 92 rfl]at h9
 rw[u8b d 92 92 rfl]at h1
 rw[u8b d 34 34 rfl]at h2
 rw[u8b d 110 110 rfl]at h3
 obtain rfl:=beq_iff_eq.1 h9;have h3':(d==110)=false:=h3;have h12:(d==92||d==34)=false:=by simp only[Bool.or_eq_false_iff];exact⟨h1,h2⟩
 rw[aS.eq_def];simp only[h12,h3']
 match s,h with
 | [],_=>rfl
 | [_],_=>rfl
 | x::y::s',h =>
  have:=h x y s' rfl
  rw[u8b d 120 120 rfl]at this
  have h':(d==120&&lM x&&lM y)=false:=this;simp only[h'];rfl
end
theorem y8 {P:Program} {ops:Array Oper} {o:Oper} {a:Act} {K:Act→World→Prop} {Q:Exit→Act→World→Prop} {E:Prop} (w:World) (hgd:o.guard=none) (s x:Operand) (t:TypeId)
  (ho:o.op=.call { callee:=.builtin .append,args:=#[s,x],argTypes:=#[t,t] })
  (base:Nat) (e:TypeId) (i:TypeInfo) (z:Value) (size bytes:Nat) (ht:P.underlying t=some (.slice e)) (hi:P.info? e=some i) (hz:i.zero=some z)
  (hsize:i.size=size) (hby:i.bytes=bytes) (hzs:z.cells.size=size) (hsz:0<size)
  (v:Value) (n:Nat) (xs:List Value) (hs:a.eval s=v) (hown:w.ownsRow base e size v n xs)
  (ad:Addr) (m c:Nat) (news:List Value) (hx:a.eval x=.slice (some ad) m c) (hl:news.length=m*size) (hnews:∀j u,news[j]? = some u→w.cell? (ad.add j)=some u) (h1:∀u∈news,u.oneCell'=true)
  (h63:n+m≤maxLen) (hbytes:(n+m)*bytes≤140737488355328) (hbase:base≤w.heap.size)
  (h:∀v' w',w'.ownsRow base e size v' (n+m) (xs++news)→w.grownBy w' v.ownBlock→(v'=.slice none 0 0↔v=.slice none 0 0∧m=0)→K (a.put o.dst v') w') :
  if Region.wanted o (yielded ops a.tmps)=true then Oper.wp P o a w K Q else E:=by
 have hw:Region.wanted o (yielded ops a.tmps)=true:=by simp[Region.wanted,hgd]
 rw[if_pos hw];exact wp_append_own w s x t ho base e i z size bytes ht hi hz hsize hby hzs hsz v n xs hs hown ad m c news hx hl hnews h1 h63 hbytes hbase h
theorem Lm (c:UInt8) (h:lM c=true):tK c<16:=by
 unfold lM digit at h;unfold tK digit;simp only[nM,Bool.or_eq_true,Bool.and_eq_true,decide_eq_true_eq]at h ⊢
 split<;>omega
theorem Gv:∀x y:Fin 16,bits BinOp.or IntKind.u8 (IntKind.u8.wrap (((x.val:Nat):Int)*16)) ((y.val:Nat):Int)=((x.val*16+y.val:Nat):Int):=by decide +kernel
theorem Ro (x y:Nat) (hx:x<16) (hy:y<16):bits BinOp.or IntKind.u8 (IntKind.u8.wrap ((x:Int)*16)) (y:Int)=((UInt8.ofNat (x*16+y)).toNat:Int):=by
 rw[UInt8.toNat_ofNat',Nat.mod_eq_of_lt (by omega)];exact Gv ⟨x,hx⟩ ⟨y,hy⟩
theorem zN {w w':World} {row:Option Nat} (h:w.drew.grownBy w' row):w.grownBy w' row:=⟨h.os,h.tape,h.output,h.size,h.block⟩
theorem Jr (s:Bytes) (w:World) (hs:s.length≤100000) (h1:1≤s.length) :
 Calls Tryz.prog 101 #[.string ⟨s.toArray⟩] w (fun e w'=>e=.returned (dB (mY s))∧Fr [] w w'):=by
 obtain⟨i0,hi,hz0,hz1,hz2⟩:=info_parts Tryz.infoU8
 go_enter Tryz.func101,Tryz.ntmps101;go_wp2
 go_loopw [5,6] (fun v i wr=>∃(k:Nat) (acc:Bytes),i=.int .i64 k∧Hid (EP s w v k acc wr)) (fun _ i _=>s.length-(intOf i).toNat)
 case atStart=>exact⟨1,[],rfl,by omega,h1,World.ownsRow_nil _ _ _ _,by simp,au.new w _ _,(Fr.refl _ _).alloc _,rfl⟩
 case round =>
  obtain⟨k,acc,rfl,hq⟩:=hrel
  obtain⟨hk1,hk,hown,hacc,hbk,hfr,hlq⟩:=hq.out
  obtain⟨hc,hz,hset,hb⟩:=hbk.rules
  have HO:=Lib.hid hown;have HL:=Lib.hid hlq;have HF:=Lib.hid hfr;clear hbk hown hlq hfr;by_cases hlt:k<s.length
  ·have hd:=Lib.hid (List.drop_eq_getElem_cons hlt);cases t34:((s[k].toNat:Int)==34)
   ·cases Om:((s[k].toNat:Int) != 92)
    ·
     have TJ:((s[k].toNat:Int)==92)=true:=by simpa using Om
     have adM:(s[k].toNat:Int)=92:=by simpa using TJ
     by_cases hlt1:k+1<s.length
     ·have hd1:=Lib.hid (List.drop_eq_getElem_cons hlt1);have hne:(s.drop (k+1)).isEmpty=false:=by simp;omega
      cases d92:((s[k+1].toNat:Int)==92)
      ·cases d34:((s[k+1].toNat:Int)==34)
       ·cases Vk:((s[k+1].toNat:Int)==110)
        ·have vJ:Hid ((∀x y s',s.drop (k+1+1)=x::y::s'→(((s[k+1].toNat:Int)==120)&&lM x&&lM y)=false)→mY s=.error 61):=by
          intro hh;rw[←HL.out,hd.out,hd1.out];exact Rn _ _ _ _ _ TJ d92 d34 Vk hh
         by_cases hlt3:k+3<s.length
         ·have hd2:=Lib.hid (List.drop_eq_getElem_cons (show k+1+1<s.length by omega));have hd3:=Lib.hid (List.drop_eq_getElem_cons (show k+1+1+1<s.length by omega));cases Vl:((s[k+1].toNat:Int)==120)
          ·have HR:Hid (mY s=.error 61):=vJ.out (fun x y s' e=>by rw[Vl];rfl);clear vJ
           go_wp2_with (go_at_call 147;exfalso;omega)
           refine bodyPost_ret (v:=dB (mY s)) (by rw[HR.out];simp[results,Tryz.results101,go_sem,dB,eU,hb]) rfl ⟨rfl,?_⟩
           repeat (first|exact HF.out|refine Fr.blk ?_ (.inr (by simp)) _ _)
          ·cases hx:lM s[k+1+1]
           ·have HR:Hid (mY s=.error 61):=vJ.out (fun x y s' e=>by rw[hd2.out]at e;rw[←(List.cons.inj e).1,hx];simp);have HX:=Lib.hid hx;have HY:=Lib.hid hx;clear vJ hx
            go_wp2_with (go_at_call 147;first|((with_reducible refine(qQ s[k+1+1] _).mono ?_);rintro e w' ⟨rfl,rfl⟩;rw[HX.out])|((with_reducible refine(qQ s[k+1+1+1] _).mono ?_);rintro e w' ⟨rfl,rfl⟩;rw[HY.out]))
            refine bodyPost_ret (v:=dB (mY s)) (by rw[HR.out];simp[results,Tryz.results101,go_sem,dB,eU,hb]) rfl ⟨rfl,?_⟩
            repeat (first|exact HF.out|refine Fr.blk ?_ (.inr (by simp)) _ _)
           ·cases hy:lM s[k+1+1+1]
            ·have HR:Hid (mY s=.error 61):=vJ.out (fun x y s' e=>by
              rw[hd2.out]at e
              have e2:=(List.cons.inj e).2;rw[hd3.out]at e2
              rw[←(List.cons.inj e2).1,hy];simp)
             have HX:=Lib.hid hx;have HY:=Lib.hid hy;clear vJ hx hy
             go_wp2_with (go_at_call 147;first|((with_reducible refine(qQ s[k+1+1] _).mono ?_);rintro e w' ⟨rfl,rfl⟩;rw[HX.out])|((with_reducible refine(qQ s[k+1+1+1] _).mono ?_);rintro e w' ⟨rfl,rfl⟩;rw[HY.out]))
             refine bodyPost_ret (v:=dB (mY s)) (by rw[HR.out];simp[results,Tryz.results101,go_sem,dB,eU,hb]) rfl ⟨rfl,?_⟩
             repeat (first|exact HF.out|refine Fr.blk ?_ (.inr (by simp)) _ _)
            ·have HX:=Lib.hid hx;have HY:=Lib.hid hy;clear vJ hx hy
             go_wp2_with (go_at_call 147;first|((with_reducible refine(qQ s[k+1+1] _).mono ?_);rintro e w' ⟨rfl,rfl⟩;rw[HX.out])|((with_reducible refine(qQ s[k+1+1+1] _).mono ?_);rintro e w' ⟨rfl,rfl⟩;rw[HY.out]))
             go_region_law (first|(refine y8 _ rfl _ _ 42 rfl (w.heap.size+1) 5 i0 (.int .u8 0) 1 1 Tryz.underlying42 hi hz0 hz1 hz2 rfl (by decide) u5 acc.length (dJ acc) rfl (by exact HO.out.alloc _) ⟨wr.heap.size,0,none⟩ 1 1 [_] rfl rfl (by exact cell_one_new _ _ _) (by simp[Value.oneCell']) (by simp[maxLen];omega) (by omega) (by have:=HF.out.size;have:=hq.out.2.2.2.2.1.lt;simp;omega) ?_;intro v' w1 hown' hgrow _)|(go_simp;go_at_call 149;first|((with_reducible refine(DF s[k+1+1] _ HX.out).mono ?_);rintro e w' ⟨rfl,rfl⟩)|((with_reducible refine(DF s[k+1+1+1] _ HY.out).mono ?_);rintro e w' ⟨rfl,rfl⟩)))
             all_goals
              have HQ:Hid (EP s w v' (k+4) (acc++[UInt8.ofNat (tK s[k+1+1]*16+tK s[k+1+1+1])]) w1):=by
               rw[Ro _ _ (Lm _ HX.out) (Lm _ HY.out)]at hown'
               exact hq.out.grow _ hown' (zN hgrow) (by omega) (by omega) (by rw[hd.out,hd1.out,hd2.out,hd3.out];exact(TI _ _ _ _ _ _ _ TJ Vl HX.out HY.out).symm)
              clear hown' hgrow;go_wp2;exact⟨⟨k+4,_,by go_num,HQ⟩,by simp[intOf];omega⟩
         ·have HR:Hid (mY s=.error 61):=vJ.out (fun x y s' e=>by have:=congrArg List.length e;simp at this;omega);clear vJ
          go_wp2_with (go_at_call 147;exfalso;omega)
          refine bodyPost_ret (v:=dB (mY s)) (by rw[HR.out];simp[results,Tryz.results101,go_sem,dB,eU,hb]) rfl ⟨rfl,?_⟩
          repeat (first|exact HF.out|refine Fr.blk ?_ (.inr (by simp)) _ _)
        ·
         go_wp2_with (at_builtin;refine wpList_append_own _ rfl _ _ 42 rfl (w.heap.size+1) 5 i0 (.int .u8 0) 1 1 Tryz.underlying42 hi hz0 hz1 hz2 rfl (by decide) _ _ _ rfl (HO.out.alloc _) ⟨wr.heap.size,0,none⟩ 1 1 [.int .u8 (10:UInt8).toNat] rfl rfl ?c1 ?c2 ?c3 ?c4 ?c5 ?_)
         case c1=>exact cell_one_new _ _ _
         case c2=>simp[Value.oneCell']
         case c3=>simp[maxLen];omega
         case c4=>omega
         case c5=>have:=HF.out.size;have:=hq.out.2.2.2.2.1.lt;simp;omega
         intro v' w1 hown' hgrow _;have HQ:Hid (EP s w v' (k+2) (acc++[10]) w1):=hq.out.grow _ hown' hgrow (by omega) (by omega) (by rw[hd.out,hd1.out];exact(Vj _ _ _ _ _ TJ Vk).symm);clear hown' hgrow;go_wp2;exact⟨⟨k+2,acc++[10],by go_num,HQ⟩,by simp[intOf];omega⟩
       ·
        go_wp2_with (at_builtin;refine wpList_append_own _ rfl _ _ 42 rfl (w.heap.size+1) 5 i0 (.int .u8 0) 1 1 Tryz.underlying42 hi hz0 hz1 hz2 rfl (by decide) _ _ _ rfl (HO.out.alloc _) ⟨wr.heap.size,0,none⟩ 1 1 [.int .u8 (s[k+1]:UInt8).toNat] rfl rfl ?c1 ?c2 ?c3 ?c4 ?c5 ?_)
        case c1=>exact cell_one_new _ _ _
        case c2=>simp[Value.oneCell']
        case c3=>simp[maxLen];omega
        case c4=>omega
        case c5=>have:=HF.out.size;have:=hq.out.2.2.2.2.1.lt;simp;omega
        intro v' w1 hown' hgrow _;have HQ:Hid (EP s w v' (k+2) (acc++[s[k+1]]) w1):=hq.out.grow _ hown' hgrow (by omega) (by omega) (by rw[hd.out,hd1.out];exact(OB _ _ _ _ _ TJ (.inr d34)).symm);clear hown' hgrow;go_wp2;exact⟨⟨k+2,acc++[s[k+1]],by go_num,HQ⟩,by simp[intOf];omega⟩
      ·
       go_wp2_with (at_builtin;refine wpList_append_own _ rfl _ _ 42 rfl (w.heap.size+1) 5 i0 (.int .u8 0) 1 1 Tryz.underlying42 hi hz0 hz1 hz2 rfl (by decide) _ _ _ rfl (HO.out.alloc _) ⟨wr.heap.size,0,none⟩ 1 1 [.int .u8 (s[k+1]:UInt8).toNat] rfl rfl ?c1 ?c2 ?c3 ?c4 ?c5 ?_)
       case c1=>exact cell_one_new _ _ _
       case c2=>simp[Value.oneCell']
       case c3=>simp[maxLen];omega
       case c4=>omega
       case c5=>have:=HF.out.size;have:=hq.out.2.2.2.2.1.lt;simp;omega
       intro v' w1 hown' hgrow _;have HQ:Hid (EP s w v' (k+2) (acc++[s[k+1]]) w1):=hq.out.grow _ hown' hgrow (by omega) (by omega) (by rw[hd.out,hd1.out];exact(OB _ _ _ _ _ TJ (.inl d92)).symm);clear hown' hgrow;go_wp2;exact⟨⟨k+2,acc++[s[k+1]],by go_num,HQ⟩,by simp[intOf];omega⟩
     ·have HR:Hid (mY s=.error 61):=by
       show mY s=_;rw[←HL.out,hd.out,List.drop_eq_nil_of_le (by omega)];exact TH _ _ _ TJ
      have hne:(s.drop (k+1)).isEmpty=true:=by simp;omega
      go_wp2;refine bodyPost_ret (v:=dB (mY s)) (by rw[HR.out];simp[results,Tryz.results101,go_sem,dB,eU,hb]) rfl ⟨rfl,?_⟩
      repeat (first|exact HF.out|refine Fr.blk ?_ (.inr (by simp)) _ _)
    ·by_cases h32:32≤(s[k].toNat:Int)∧(s[k].toNat:Int)≤126
     ·obtain⟨h32,Rp⟩:=h32
      go_wp2_with (at_builtin;refine wpList_append_own _ rfl _ _ 42 rfl (w.heap.size+1) 5 i0 (.int .u8 0) 1 1 Tryz.underlying42 hi hz0 hz1 hz2 rfl (by decide) _ _ _ rfl (HO.out.alloc _) ⟨wr.heap.size,0,none⟩ 1 1 [.int .u8 (s[k]:UInt8).toNat] rfl rfl ?c1 ?c2 ?c3 ?c4 ?c5 ?_)
      case c1=>exact cell_one_new _ _ _
      case c2=>simp[Value.oneCell']
      case c3=>simp[maxLen];omega
      case c4=>omega
      case c5=>have:=HF.out.size;have:=hq.out.2.2.2.2.1.lt;simp;omega
      intro v' w1 hown' hgrow _;have HQ:Hid (EP s w v' (k+1) (acc++[s[k]]) w1):=hq.out.grow _ hown' hgrow (by omega) (by omega) (by rw[hd.out];exact(OA _ _ _ _ t34 Om h32 Rp).symm);clear hown' hgrow;go_wp2;exact⟨⟨k+1,acc++[s[k]],by go_num,HQ⟩,by simp[intOf];omega⟩
     ·have Rq:(s[k].toNat:Int)<32∨126<(s[k].toNat:Int):=by omega
      have HR:Hid (mY s=.error 61):=by
       show mY s=_;rw[←HL.out,hd.out];exact TG _ _ _ _ t34 Om Rq
      have hng:(decide (32≤(s[k].toNat:Int))&&decide ((s[k].toNat:Int)≤126))=false:=by simp only[Bool.and_eq_false_iff,decide_eq_false_iff_not];omega
      rcases Rq with Rq | Rq
      all_goals
       go_wp2;refine bodyPost_ret (v:=dB (mY s)) (by rw[HR.out];simp[results,Tryz.results101,go_sem,dB,eU,hb]) rfl ⟨rfl,?_⟩
       repeat (first|exact HF.out|refine Fr.blk ?_ (.inr (by simp)) _ _)
   ·
    have HR:Hid (mY s=.ok (⟨6,0,acc,0,0⟩,k+1)):=by
     show mY s=_;rw[←HL.out,hd.out];exact TF _ _ _ _ t34
    have OC:(convert 42 9 u5).run Tryz.prog wr=.ok (.string ⟨acc.toArray⟩) wr:=qR Tryz.underlying42 Tryz.underlying5 Tryz.underlying9 HO.out;go_wp2;refine bodyPost_ret (v:=dB (mY s)) (by rw[HR.out];simp[results,Tryz.results101,go_sem,dB,eU,hb]) rfl ⟨rfl,?_⟩
    repeat (first|exact HF.out|refine Fr.blk ?_ (.inr (by simp)) _ _)
  ·have HR:Hid (mY s=.error 61):=by
    show mY s=_;rw[←HL.out,List.drop_eq_nil_of_le (by omega)];rfl
   go_wp2;refine bodyPost_ret (v:=dB (mY s)) (by rw[HR.out];simp[results,Tryz.results101,go_sem,dB,eU,hb]) rfl ⟨rfl,?_⟩
   repeat (first|exact HF.out|refine Fr.blk ?_ (.inr (by simp)) _ _)
end Go.Proofs.YtoomapkcoibmhaaGreatDoor
end
