/- A part of the proof. -/
import Derived.Deep.RegionHeld3
import Derived.RegionDies
import Derived.Test.YtoomapkcoibmhaaGreatDoorQ2
import Derived.Test.YtoomapkcoibmhaaGreatDoorQ13
set_option maxRecDepth 100000
set_option maxHeartbeats 12800000
set_option linter.all false
section
open Go Go.Proofs Go.RowKit Go.Shelf Ck
namespace Go.Proofs.YtoomapkcoibmhaaGreatDoor
theorem wY (P:Program) (w:World) (cs:Array Value):(asAgg (.agg cs)).run P w=.ok cs w:=rfl
@[go_sem] theorem U3 (a b c d e:Value) (w:World):(Instr.field 82 (.agg #[a,b,c,d,e]) 1).run Tryz.prog w=.ok b w:=by
 simp[Instr.field,go_sem,wY]
@[go_sem] theorem Td (a b c d e:Value) (w:World):(Instr.field 82 (.agg #[a,b,c,d,e]) 2).run Tryz.prog w=.ok c w:=by
 simp[Instr.field,go_sem,wY]
@[go_sem] theorem Te (a b c d e:Value) (w:World):(Instr.field 82 (.agg #[a,b,c,d,e]) 0).run Tryz.prog w=.ok a w:=by
 simp[Instr.field,go_sem,wY]
def mZ (F:dS) (ts:TS):dS:=match aW F ts with | .ok t=>⟨70,t.at'⟩ | .error f=>f
theorem kQ {F:dS} {ts:TS} {t:Tok} (h:aW F ts=.ok t):EU (aW F ts)=.returned (.agg #[.int .i64 t.kind,.int .i64 t.at',.string ⟨t.text.toArray⟩,.int .i64 t.int,.int .u64 t.bits]):=by rw[h];rfl
theorem lS {F:dS} {ts:TS} {f:dS} (h:aW F ts=.error f):EU (aW F ts)=eD f:=by rw[h];rfl
theorem pG {F:dS} {ts:TS} {t:Tok} (h:aW F ts=.ok t):∃o r,ts=(t,o)::r:=by
 cases ts with
 | nil=>cases h
 | cons p r =>
  obtain⟨t',o⟩:=p
  simp only[aW]at h;split at h
  ·cases h
  ·cases h;exact⟨o,r,rfl⟩
theorem jf.next (S:jf) (a:Nat) {t:Tok} {o:Int} {r:TS} (h:S.ts a=(t,o)::r):a<S.toks.length∧r=S.ts (a+1):=by
 have hl:a<S.toks.length:=by
  have:=congrArg List.length h
  simp[jf.ts,nO]at this;omega
 refine⟨hl,?_⟩;rw[jf.ts,DL _ _ hl]at h
 simp at h;exact h.2.symm
section
variable (S:jf) (a:Nat) (w:World)
theorem wZ (h:PS S a w):Calls Tryz.prog 45 #[.pointer (some ⟨S.bp,0,none⟩)] w fun e w'=>e=eD (mZ S.F (S.ts a))∧Fr [] w w':=by
 have hp:=tX S a w h;cases hl:aW S.F (S.ts a) with
 | ok t =>
  rw[kQ hl]at hp
  have HW:Hid (mZ S.F (S.ts a)=⟨70,t.at'⟩):=by show _=_;rw[mZ,hl]
  clear hl h;go_enter Tryz.func45,Tryz.ntmps45
  go_wp2_with (go_at_call 40;refine hp.mono ?_;rintro e w1 ⟨rfl,hf⟩)
  exact⟨rfl,by rw[HW.out];rfl,hf⟩
 | error f =>
  rw[lS hl,eD]at hp
  have HW:Hid (mZ S.F (S.ts a)=f):=by show _=_;rw[mZ,hl]
  clear hl h;go_enter Tryz.func45,Tryz.ntmps45
  go_wp2_with (go_at_call 40;refine hp.mono ?_;rintro e w1 ⟨rfl,hf⟩)
  exact⟨rfl,by rw[HW.out];rfl,hf⟩
def iR (F:dS) (ts:TS) (k:Int) (l:List Bytes):Ending :=
 match aW F ts with
 | .ok t=>.returned (.bool (t.kind==k&&l.contains t.text))
 | .error f=>eD f
theorem rZ (h:PS S a w) (k:Int) (v:Value) (l:List Bytes) (hv:bO w v l) (Tf:l.length≤9223372036854775807) :
  Calls Tryz.prog 72 #[.pointer (some ⟨S.bp,0,none⟩),.int .i64 k,v] w fun e w'=>e=iR S.F (S.ts a) k l∧Fr [] w w':=by
 have hp:=tX S a w h;cases hl:aW S.F (S.ts a) with
 | ok t =>
  rw[kQ hl]at hp
  cases hk:(t.kind==k)
  ·have HW:Hid (iR S.F (S.ts a) k l=.returned (.bool false)):=by show _=_;rw[iR,hl];simp[hk]
   clear hl h;go_enter Tryz.func72,Tryz.ntmps72
   go_wp2_with (go_at_call 40;refine hp.mono ?_;rintro e w1 ⟨rfl,hf⟩)
   go_ret;exact⟨by rw[HW.out];simp,hf.alloc _⟩
  ·have HW:Hid (iR S.F (S.ts a) k l=.returned (.bool (l.contains t.text))):=by show _=_;rw[iR,hl];simp[hk]
   clear hl h;go_enter Tryz.func72,Tryz.ntmps72
   go_wp2_with (first|(go_at_call 40;refine hp.mono ?_;rintro e w1 ⟨rfl,hf⟩)|(go_at_call 61;refine(fJ _ v l t.text ((hv.fr hf (by simp)).fr ((Fr.refl [] _).alloc _) (by simp)) Tf).mono ?_;rintro e w2 ⟨rfl,rfl⟩))
   go_ret;exact⟨by rw[HW.out];simp,hf.alloc _⟩
 | error f =>
  rw[lS hl,eD]at hp
  have HW:Hid (iR S.F (S.ts a) k l=eD f):=by show _=_;rw[iR,hl]
  clear hl h;go_enter Tryz.func72,Tryz.ntmps72
  go_wp2_with (go_at_call 40;refine hp.mono ?_;rintro e w1 ⟨rfl,hf⟩)
  exact⟨rfl,by rw[HW.out];rfl,hf⟩
def ou (t:Tok) (k:Int) (x:Bytes):Bool:=t.kind==k&&t.text==x
theorem Gx (h:PS S a w) (k:Int) (x:Bytes) {t:Tok} (hl:aW S.F (S.ts a)=.ok t) (ht:ou t k x=true) :
  Calls Tryz.prog 41 #[.pointer (some ⟨S.bp,0,none⟩),.int .i64 k,.string ⟨x.toArray⟩] w fun e w'=>e=.returned (.bool true)∧PS S (a+1) w'∧Fr [S.bp] w w':=by
 have hs:=fun W v hW hv=>rZ S a W hW k v [x] hv (by simp)
 have HW:iR S.F (S.ts a) k [x]=.returned (.bool true):=by
  rw[iR,hl];simp only[ou]at ht;simpa using ht
 simp only[HW]at hs;obtain⟨o,r,hts⟩:=pG hl
 have hlt:=(S.next a hts).1;have hh:=h;have HH:=Lib.hid h;have hlim:=h.lim;have hf1:Fr [] w (w.alloc (.cells #[.string ⟨x.toArray⟩] 9)):=(Fr.refl [] _).alloc _
 have hv1:bO (w.alloc (.cells #[.string ⟨x.toArray⟩] 9)) (.slice (some ⟨w.heap.size,0,none⟩) 1 1) [x]:=by
  refine .inr ⟨_,_,rfl,by simp,fun j hj=>?_⟩;obtain rfl:j=0:=by simp at hj;omega
  exact(au.new w _ _).rules.1 0
 have h1:=hs _ _ (h.fr hf1) hv1;have H2:∀w1,Fr [] w w1→au w1 S.bp _ _:=fun w1 hf=>h.blk.fr hf (by simp)
 have hb:=h.blk.lt;clear HW hl hs hts ht h hh;go_enter Tryz.func41,Tryz.ntmps41
 go_wp2_with (go_at_call 72;refine h1.mono ?_;rintro e w1 ⟨rfl,hf⟩;obtain⟨hc,hz,hset,hb⟩:=(H2 _ (hf1.trans hf)).rules)
 go_ret;exact⟨rfl,HH.out.go (((hf1.trans hf).nil).blk (by simp) _ _) (au.blk hb) (by omega),((hf1.trans hf).nil).blk (by simp) _ _⟩
theorem Lp (h:PS S a w) (k:Int) (x:Bytes) {t:Tok} (hl:aW S.F (S.ts a)=.ok t) (ht:ou t k x=false) :
  Calls Tryz.prog 41 #[.pointer (some ⟨S.bp,0,none⟩),.int .i64 k,.string ⟨x.toArray⟩] w fun e w'=>e=.returned (.bool false)∧Fr [] w w':=by
 have hs:=fun W v hW hv=>rZ S a W hW k v [x] hv (by simp)
 have HW:iR S.F (S.ts a) k [x]=.returned (.bool false):=by
  rw[iR,hl];simp only[ou]at ht;simpa using ht
 simp only[HW]at hs;have hf1:Fr [] w (w.alloc (.cells #[.string ⟨x.toArray⟩] 9)):=(Fr.refl [] _).alloc _
 have hv1:bO (w.alloc (.cells #[.string ⟨x.toArray⟩] 9)) (.slice (some ⟨w.heap.size,0,none⟩) 1 1) [x]:=by
  refine .inr ⟨_,_,rfl,by simp,fun j hj=>?_⟩;obtain rfl:j=0:=by simp at hj;omega
  exact(au.new w _ _).rules.1 0
 have h1:=hs _ _ (h.fr hf1) hv1;clear HW hl hs ht h;go_enter Tryz.func41,Tryz.ntmps41
 go_wp2_with (go_at_call 72;refine h1.mono ?_;rintro e w1 ⟨rfl,hf⟩)
 go_ret;exact⟨rfl,hf1.trans hf⟩
theorem OM (h:PS S a w) (k:Int) (x:Bytes) {f:dS} (hl:aW S.F (S.ts a)=.error f) :
  Calls Tryz.prog 41 #[.pointer (some ⟨S.bp,0,none⟩),.int .i64 k,.string ⟨x.toArray⟩] w fun e w'=>e=eD f∧Fr [] w w':=by
 have hs:=fun W v hW hv=>rZ S a W hW k v [x] hv (by simp)
 have HW:iR S.F (S.ts a) k [x]=eD f:=by rw[iR,hl]
 simp only[HW,eD]at hs;have hf1:Fr [] w (w.alloc (.cells #[.string ⟨x.toArray⟩] 9)):=(Fr.refl [] _).alloc _
 have hv1:bO (w.alloc (.cells #[.string ⟨x.toArray⟩] 9)) (.slice (some ⟨w.heap.size,0,none⟩) 1 1) [x]:=by
  refine .inr ⟨_,_,rfl,by simp,fun j hj=>?_⟩;obtain rfl:j=0:=by simp at hj;omega
  exact(au.new w _ _).rules.1 0
 have h1:=hs _ _ (h.fr hf1) hv1;clear HW hl hs h;go_enter Tryz.func41,Tryz.ntmps41
 go_wp2_with (go_at_call 72;refine h1.mono ?_;rintro e w1 ⟨rfl,hf⟩)
 exact⟨rfl,rfl,hf1.trans hf⟩
theorem OO (h:PS S a w) (k:Int) (x:Bytes) {t:Tok} (hl:aW S.F (S.ts a)=.ok t) (ht:ou t k x=true) :
  Calls Tryz.prog 43 #[.pointer (some ⟨S.bp,0,none⟩),.int .i64 k,.string ⟨x.toArray⟩] w fun e w'=>e=.returned (.int .i64 t.at')∧PS S (a+1) w'∧Fr [S.bp] w w':=by
 have hp:=tX S a w h;rw[kQ hl]at hp
 have hs:=fun W hW=>Gx S a W hW k x hl ht
 clear hl ht;go_enter Tryz.func43,Tryz.ntmps43
 go_wp2_with (first|(go_at_call 40;refine hp.mono ?_;rintro e w1 ⟨rfl,hf⟩)|(go_at_call 41;refine(hs _ (h.fr hf)).mono ?_;rintro e w2 ⟨rfl,hps,hf2⟩))
 go_ret;exact⟨rfl,hps,hf.nil.trans hf2⟩
theorem Rt (h:PS S a w) (k:Int) (x:Bytes) {t:Tok} (hl:aW S.F (S.ts a)=.ok t) (ht:ou t k x=false) :
  Calls Tryz.prog 43 #[.pointer (some ⟨S.bp,0,none⟩),.int .i64 k,.string ⟨x.toArray⟩] w fun e w'=>e=eD ⟨70,t.at'⟩∧Fr [] w w':=by
 have hp:=tX S a w h;rw[kQ hl]at hp
 have hs:=fun W hW=>Lp S a W hW k x hl ht
 have hw:=fun W hW=>wZ S a W hW
 have HW:mZ S.F (S.ts a)=⟨70,t.at'⟩:=by rw[mZ,hl]
 simp only[HW,eD]at hw;clear hl ht HW;go_enter Tryz.func43,Tryz.ntmps43
 go_wp2_with (first|(go_at_call 40;refine hp.mono ?_;rintro e w1 ⟨rfl,hf⟩)|(go_at_call 41;refine(hs _ (h.fr hf)).mono ?_;rintro e w2 ⟨rfl,hf2⟩)|(go_at_call 45;refine(hw _ (h.fr (hf.trans hf2))).mono ?_;rintro e w3 ⟨rfl,hf3⟩))
 exact⟨rfl,rfl,(hf.trans hf2).trans hf3⟩
theorem OP (h:PS S a w) (k:Int) (x:Bytes) {f:dS} (hl:aW S.F (S.ts a)=.error f) :
  Calls Tryz.prog 43 #[.pointer (some ⟨S.bp,0,none⟩),.int .i64 k,.string ⟨x.toArray⟩] w fun e w'=>e=eD f∧Fr [] w w':=by
 have hp:=tX S a w h;rw[lS hl,eD]at hp
 clear hl;go_enter Tryz.func43,Tryz.ntmps43
 go_wp2_with (go_at_call 40;refine hp.mono ?_;rintro e w1 ⟨rfl,hf⟩)
 exact⟨rfl,rfl,hf⟩
theorem OQ (h:PS S a w) (k:Int) {t:Tok} (hl:aW S.F (S.ts a)=.ok t) (ht:(t.kind==k)=true) :
  Calls Tryz.prog 42 #[.pointer (some ⟨S.bp,0,none⟩),.int .i64 k] w fun e w'=>e=.returned (.agg #[.int .i64 t.kind,.int .i64 t.at',.string ⟨t.text.toArray⟩,.int .i64 t.int,.int .u64 t.bits])∧PS S (a+1) w'∧Fr [S.bp] w w':=by
 obtain rfl:t.kind=k:=by simpa using ht
 obtain⟨o,r,hts⟩:=pG hl
 have hlt:=(S.next a hts).1;have hf1:Fr [] w (w.alloc (.cells #[.int .i64 0,.int .i64 0,.string ⟨#[]⟩,.int .i64 0,.int .u64 0] 82)):=(Fr.refl [] _).alloc _;have hp:=tX S a _ (h.fr hf1);rw[kQ hl]at hp
 have HH:=Lib.hid h;have hlim:=h.lim;have H2:∀w1,Fr [] w w1→au w1 S.bp _ _:=fun w1 hf=>h.blk.fr hf (by simp)
 have H3:∀w1,Fr [] (w.alloc (.cells #[.int .i64 0,.int .i64 0,.string ⟨#[]⟩,.int .i64 0,.int .u64 0] 82)) w1→au w1 w.heap.size _ _:=fun w1 hf=>(au.new w _ _).fr hf (by simp)
 have hb:=h.blk.lt;have hne:w.heap.size≠S.bp:=by omega
 have hne':S.bp≠w.heap.size:=by omega
 clear hl hts h;go_enter Tryz.func42,Tryz.ntmps42
 go_wp2_with (go_at_call 40;refine hp.mono ?_;rintro e w1 ⟨rfl,hf⟩;obtain⟨hc,hz,hset,hb⟩:=(H2 _ (hf1.trans hf)).rules;obtain⟨kc,kz,aH,kb⟩:=(H3 _ hf).rules)
 have hfr:Fr [S.bp] w (((blk (blk w1 w.heap.size #[.int .i64 t.kind,.int .i64 t.at',.string ⟨t.text.toArray⟩,.int .i64 t.int,.int .u64 t.bits] 82) S.bp #[S.vt,.int .i64 S.F.code,.int .i64 S.F.at',S.vo,.int .i64 (a+1)] 77).alloc (.cells #[.int .i64 t.kind,.int .i64 t.at',.string ⟨t.text.toArray⟩,.int .i64 t.int,.int .u64 t.bits] 82))) :=
  (((hf1.trans hf).nil.blk (.inr (Nat.le_refl _)) _ _).blk (.inl (List.mem_singleton.2 rfl)) _ _).alloc _
 refine bodyPost_ret (v:=.agg #[.int .i64 t.kind,.int .i64 t.at',.string ⟨t.text.toArray⟩,.int .i64 t.int,.int .u64 t.bits]) (by simp[results,Tryz.results42,go_sem,kb,hne]) rfl ⟨rfl,?_,hfr⟩;exact HH.out.go hfr ((au.blk (by rw[aB];exact hb)).alloc _) (by omega)
theorem Ru (h:PS S a w) (k:Int) {t:Tok} (hl:aW S.F (S.ts a)=.ok t) (ht:(t.kind==k)=false) :
  Calls Tryz.prog 42 #[.pointer (some ⟨S.bp,0,none⟩),.int .i64 k] w fun e w'=>e=eD ⟨70,t.at'⟩∧Fr [] w w':=by
 have hf1:Fr [] w (w.alloc (.cells #[.int .i64 0,.int .i64 0,.string ⟨#[]⟩,.int .i64 0,.int .u64 0] 82)):=(Fr.refl [] _).alloc _;have hp:=tX S a _ (h.fr hf1);rw[kQ hl]at hp
 have hw:=fun W hW=>wZ S a W hW
 have HW:mZ S.F (S.ts a)=⟨70,t.at'⟩:=by rw[mZ,hl]
 simp only[HW,eD]at hw;have hw1:∀w1,Fr [] (w.alloc (.cells #[.int .i64 0,.int .i64 0,.string ⟨#[]⟩,.int .i64 0,.int .u64 0] 82)) w1→∀o,PS S a (w1.alloc o):=fun w1 hf o=>h.fr ((hf1.trans hf).alloc _)
 clear hl HW;go_enter Tryz.func42,Tryz.ntmps42
 go_wp2_with (first|(go_at_call 40;refine hp.mono ?_;rintro e w1 ⟨rfl,hf⟩)|(go_at_call 45;refine(hw _ (hw1 _ hf _)).mono ?_;rintro e w3 ⟨rfl,hf3⟩))
 exact⟨rfl,rfl,((hf1.trans hf).alloc _).trans hf3⟩
theorem OT (h:PS S a w) (k:Int) {f:dS} (hl:aW S.F (S.ts a)=.error f) :
  Calls Tryz.prog 42 #[.pointer (some ⟨S.bp,0,none⟩),.int .i64 k] w fun e w'=>e=eD f∧Fr [] w w':=by
 have hf1:Fr [] w (w.alloc (.cells #[.int .i64 0,.int .i64 0,.string ⟨#[]⟩,.int .i64 0,.int .u64 0] 82)):=(Fr.refl [] _).alloc _;have hp:=tX S a _ (h.fr hf1);rw[lS hl,eD]at hp
 clear hl;go_enter Tryz.func42,Tryz.ntmps42
 go_wp2_with (go_at_call 40;refine hp.mono ?_;rintro e w1 ⟨rfl,hf⟩)
 exact⟨rfl,rfl,hf1.trans hf⟩
end
theorem bind_eq {α β:Type} (x:Ck.P α) (f:α→Ck.P β) (ts:TS):(x >>= f) ts=P.bind x f ts:=rfl
theorem aZ {α:Type} (x:α) (ts:TS):(pure x:Ck.P α) ts=some (.ok (x,ts)):=rfl
theorem bind_some {α β:Type} {x:Ck.P α} {f:α→Ck.P β} {ts:TS} {r:Except dS (β × TS)} (h:(x >>= f) ts=some r) :
  (∃e,x ts=some (.error e)∧r=.error e)∨∃y ts',x ts=some (.ok (y,ts'))∧f y ts'=some r:=by
 rw[bind_eq]at h
 unfold P.bind at h;split at h
 ·cases h
 ·rename_i e he;cases h;exact .inl ⟨e,he,rfl⟩
 ·rename_i y ts' he;exact .inr ⟨y,ts',he,h⟩
theorem look_eq (F:dS) (ts:TS):Ck.look F ts=match aW F ts with | .ok t=>some (.ok (t,ts)) | .error f=>some (.error f):=rfl
theorem vM (F:dS) (k:Int) (l:List Bytes) (ts:TS):sees F k l ts=match aW F ts with | .ok t=>some (.ok (t.kind==k&&l.contains t.text,ts)) | .error f=>some (.error f):=by
 simp only[sees,bind_eq,P.bind,look_eq];cases aW F ts<;>rfl
theorem EW (F:dS) (k:Int) (x:Bytes) (ts:TS):skip F k x ts=match aW F ts with | .ok t=>some (.ok (ou t k x,if ou t k x then ts.tail else ts)) | .error f=>some (.error f):=by
 simp only[skip,bind_eq,P.bind,vM];cases aW F ts with
 | error f=>rfl
 | ok t =>
  have:(t.kind==k&&[x].contains t.text)=ou t k x:=by rw[ou,Bool.eq_iff_iff];simp
  simp only[this];cases ou t k x<;>rfl
theorem Lr (F:dS) (k:Int) (x:Bytes) (ts:TS):must F k x ts=match aW F ts with | .ok t=>if ou t k x then some (.ok (t.at',ts.tail))else some (.error ⟨70,t.at'⟩) | .error f=>some (.error f):=by
 simp only[must,bind_eq,P.bind,look_eq,EW];cases h:aW F ts with
 | error f=>rfl
 | ok t =>
  simp only[h];cases ou t k x
  ·simp only[Bool.false_eq_true,if_false,wrong,bind_eq,P.bind,look_eq,h];rfl
  ·rfl
theorem Ls (F:dS) (k:Int) (ts:TS):take F k ts=match aW F ts with | .ok t=>if t.kind==k then some (.ok (t,ts.tail))else some (.error ⟨70,t.at'⟩) | .error f=>some (.error f):=by
 simp only[take,bind_eq,P.bind,look_eq];cases h:aW F ts with
 | error f=>rfl
 | ok t =>
  simp only[];cases t.kind==k
  ·simp only[Bool.false_eq_true,if_false,wrong,bind_eq,P.bind,look_eq,h];rfl
  ·rfl
theorem jf.tail (S:jf) (a:Nat):(S.ts a).tail=S.ts (a+1):=by simp[jf.ts,List.tail_drop]
section
variable {S:jf} {a:Nat} {w:World}
def Ok (S:jf) (w:World) (v:Value) (ts':TS) (e:Ending) (w':World):Prop:=e=.returned v∧∃a',ts'=S.ts a'∧PS S a' w'∧Fr [S.bp] w w'
def Er (S:jf) (w:World) (f:dS) (e:Ending) (w':World):Prop:=e=.panicked [{ v:=.iface 26 (.agg #[.int .i64 f.code,.int .i64 f.at']),recovered:=false }]∧Fr [S.bp] w w'
theorem iT (h:PS S a w) {k:Int} {l:List Bytes} {v:Value} (hv:bO w v l) (Tf:l.length≤9223372036854775807) {b:Bool} {ts':TS} (hm:sees S.F k l (S.ts a)=some (.ok (b,ts'))) :
  Calls Tryz.prog 72 #[.pointer (some ⟨S.bp,0,none⟩),.int .i64 k,v] w fun e w'=>e=.returned (.bool b)∧ts'=S.ts a∧PS S a w'∧Fr [] w w':=by
 rw[vM]at hm
 refine(rZ S a w h k v l hv Tf).mono ?_
 rintro e w' ⟨rfl,hf⟩;unfold iR;cases hl:aW S.F (S.ts a) with
 | error f=>rw[hl]at hm;cases hm
 | ok t=>rw[hl]at hm;simp only[Option.some.injEq,Except.ok.injEq,Prod.mk.injEq]at hm;exact⟨by simp only[hm.1],hm.2.symm,h.fr hf,hf⟩
theorem mE (h:PS S a w) {k:Int} {l:List Bytes} {v:Value} (hv:bO w v l) (Tf:l.length≤9223372036854775807) {f:dS} (hm:sees S.F k l (S.ts a)=some (.error f)) :
  Calls Tryz.prog 72 #[.pointer (some ⟨S.bp,0,none⟩),.int .i64 k,v] w (Er S w f):=by
 rw[vM]at hm
 refine(rZ S a w h k v l hv Tf).mono ?_
 rintro e w' ⟨rfl,hf⟩;unfold iR;cases hl:aW S.F (S.ts a) with
 | ok t=>rw[hl]at hm;cases hm
 | error g=>rw[hl]at hm;cases hm;exact⟨rfl,hf.nil⟩
theorem dQ (h:PS S a w) {k:Int} {x:Bytes} {b:Bool} {ts':TS} (hm:skip S.F k x (S.ts a)=some (.ok (b,ts'))) :
  Calls Tryz.prog 41 #[.pointer (some ⟨S.bp,0,none⟩),.int .i64 k,.string ⟨x.toArray⟩] w (Ok S w (.bool b) ts'):=by
 rw[EW]at hm
 cases hl:aW S.F (S.ts a) with
 | error f=>rw[hl]at hm;cases hm
 | ok t =>
  rw[hl]at hm
  simp only[Option.some.injEq,Except.ok.injEq,Prod.mk.injEq]at hm;obtain⟨h1,h2⟩:=hm
  cases b
  ·rw[h1]at h2
   exact(Lp S a w h k x hl h1).mono fun e w' hw=>⟨hw.1,a,h2.symm,h.fr hw.2,hw.2.nil⟩
  ·rw[h1]at h2
   exact(Gx S a w h k x hl h1).mono fun e w' hw=>⟨hw.1,a+1,by rw[←S.tail];exact h2.symm,hw.2.1,hw.2.2⟩
theorem ku (h:PS S a w) {k:Int} {x:Bytes} {f:dS} (hm:skip S.F k x (S.ts a)=some (.error f)) :
  Calls Tryz.prog 41 #[.pointer (some ⟨S.bp,0,none⟩),.int .i64 k,.string ⟨x.toArray⟩] w (Er S w f):=by
 rw[EW]at hm
 cases hl:aW S.F (S.ts a) with
 | ok t=>rw[hl]at hm;cases hm
 | error g=>rw[hl]at hm;cases hm;exact(OM S a w h k x hl).mono fun e w' hw=>⟨hw.1,hw.2.nil⟩
theorem dZ (h:PS S a w) {k:Int} {x:Bytes} {v:Int} {ts':TS} (hm:must S.F k x (S.ts a)=some (.ok (v,ts'))) :
  Calls Tryz.prog 43 #[.pointer (some ⟨S.bp,0,none⟩),.int .i64 k,.string ⟨x.toArray⟩] w (Ok S w (.int .i64 v) ts'):=by
 rw[Lr]at hm
 cases hl:aW S.F (S.ts a) with
 | error f=>rw[hl]at hm;cases hm
 | ok t =>
  rw[hl]at hm
  simp only at hm;cases ht:ou t k x
  ·rw[ht]at hm;cases hm
  ·rw[ht]at hm
   simp only[if_true,Option.some.injEq,Except.ok.injEq,Prod.mk.injEq]at hm;obtain⟨rfl,h2⟩:=hm
   exact(OO S a w h k x hl ht).mono fun e w' hw=>⟨hw.1,a+1,by rw[←S.tail];exact h2.symm,hw.2.1,hw.2.2⟩
theorem gQ (h:PS S a w) {k:Int} {x:Bytes} {f:dS} (hm:must S.F k x (S.ts a)=some (.error f)) :
  Calls Tryz.prog 43 #[.pointer (some ⟨S.bp,0,none⟩),.int .i64 k,.string ⟨x.toArray⟩] w (Er S w f):=by
 rw[Lr]at hm
 cases hl:aW S.F (S.ts a) with
 | error g=>rw[hl]at hm;cases hm;exact(OP S a w h k x hl).mono fun e w' hw=>⟨hw.1,hw.2.nil⟩
 | ok t =>
  rw[hl]at hm
  simp only at hm;cases ht:ou t k x
  ·rw[ht]at hm;cases hm;exact(Rt S a w h k x hl ht).mono fun e w' hw=>⟨hw.1,hw.2.nil⟩
  ·rw[ht]at hm;cases hm
theorem gy (h:PS S a w) {k:Int} {t:Tok} {ts':TS} (hm:take S.F k (S.ts a)=some (.ok (t,ts'))) :
  Calls Tryz.prog 42 #[.pointer (some ⟨S.bp,0,none⟩),.int .i64 k] w (Ok S w (.agg #[.int .i64 t.kind,.int .i64 t.at',.string ⟨t.text.toArray⟩,.int .i64 t.int,.int .u64 t.bits]) ts'):=by
 rw[Ls]at hm
 cases hl:aW S.F (S.ts a) with
 | error f=>rw[hl]at hm;cases hm
 | ok t' =>
  rw[hl]at hm
  simp only at hm;cases ht:t'.kind==k
  ·rw[ht]at hm;cases hm
  ·rw[ht]at hm
   simp only[if_true,Option.some.injEq,Except.ok.injEq,Prod.mk.injEq]at hm;obtain⟨rfl,h2⟩:=hm
   exact(OQ S a w h k hl ht).mono fun e w' hw=>⟨hw.1,a+1,by rw[←S.tail];exact h2.symm,hw.2.1,hw.2.2⟩
theorem kX (h:PS S a w) {k:Int} {f:dS} (hm:take S.F k (S.ts a)=some (.error f)) :
  Calls Tryz.prog 42 #[.pointer (some ⟨S.bp,0,none⟩),.int .i64 k] w (Er S w f):=by
 rw[Ls]at hm
 cases hl:aW S.F (S.ts a) with
 | error g=>rw[hl]at hm;cases hm;exact(OT S a w h k hl).mono fun e w' hw=>⟨hw.1,hw.2.nil⟩
 | ok t =>
  rw[hl]at hm
  simp only at hm;cases ht:t.kind==k
  ·rw[ht]at hm;cases hm;exact(Ru S a w h k hl ht).mono fun e w' hw=>⟨hw.1,hw.2.nil⟩
  ·rw[ht]at hm;cases hm
end
def aj (n:Ck.Node) (z:Int) (vk:Value):Array Value:=#[.int .i64 n.kind,.int .i64 n.at',.int .i64 z,.string ⟨n.text.toArray⟩,.int .i64 n.int,.int .u64 n.bits,vk]
def cZ (b:Nat):Value:=.pointer (some ⟨b,0,none⟩)
def ptrs (l:List Nat):List Value:=l.map cZ
mutual
def Sp (w:World) (lo hi b:Nat):Tree→Prop
 | .mk n ks=>lo≤b∧b<hi∧∃(z:Int) (vk:Value) (bs:List Nat),au w b (aj n z vk) 90∧w.ownsRow lo 55 1 vk ks.length (ptrs bs) ∧
   (∀g,vk.ownBlock=some g→g<hi)∧iw w lo hi b vk.ownBlock bs ks
def iw (w:World) (lo hi b:Nat) (g:Option Nat) (bs:List Nat):List Tree→Prop
 | []=>bs=[]∧lo≤hi
 | t::ts=>∃x xs l h,bs=x::xs∧lo≤l∧l≤h∧h≤hi∧(b<l∨h≤b)∧(∀k,g=some k→k<l∨h≤k)∧Sp w l h x t∧iw w h hi b g xs ts
end
mutual
theorem Sp.keep {w w':World} {lo hi lo' hi' b:Nat}:∀{t:Tree},Sp w lo hi b t→(∀k,lo≤k→k<hi→w'.heap[k]? = w.heap[k]?)→lo'≤lo→hi≤hi'→Sp w' lo' hi' b t
 | .mk n ks,h,hk,h1,h2=>by
  simp only[Sp]at h ⊢;obtain⟨a1,a2,z,vk,bs,a3,a4,a5,a6⟩:=h
  refine⟨by omega,by omega,z,vk,bs,(hk b a1 a2).trans a3,?_,fun g hg=>by have:=a5 g hg;omega,iw.keep a6 hk h1 h2⟩;refine⟨a4.1,?_⟩;rcases a4.2 with hn|⟨g,cap,cur,e,hb,hgg,rest⟩
  ·exact .inl hn
  ·exact .inr ⟨g,cap,cur,e,by omega,(hk g hb (a5 g (by rw[e];rfl))).trans hgg,rest⟩
theorem iw.keep {w w':World} {lo hi lo' hi' b:Nat} {g:Option Nat} {bs:List Nat}:∀{ks:List Tree},iw w lo hi b g bs ks→(∀k,lo≤k→k<hi→w'.heap[k]? = w.heap[k]?)→lo'≤lo→hi≤hi'→iw w' lo' hi' b g bs ks
 | [],h,_,h1,h2=>by
  simp only[iw]at h ⊢;exact⟨h.1,by omega⟩
 | t::ts,h,hk,h1,h2=>by
  simp only[iw]at h ⊢;obtain⟨x,xs,l,hh,e,a1,a2,a3,a4,a5,a6,a7⟩:=h
  exact⟨x,xs,l,hh,e,by omega,a2,by omega,a4,a5,Sp.keep a6 (fun k k1 k2=>hk k (by omega) (by omega)) (Nat.le_refl _) (Nat.le_refl _),iw.keep a7 (fun k k1 k2=>hk k (by omega) k2) (Nat.le_refl _) h2⟩
end
theorem Sp.lt {w:World} {lo hi b:Nat} {t:Tree} (h:Sp w lo hi b t):lo≤b∧b<hi:=by
 cases t;simp only[Sp]at h;exact⟨h.1,h.2.1⟩
theorem iw.le {w:World} {lo hi b:Nat} {g:Option Nat}:∀{ks:List Tree} {bs:List Nat} {lo:Nat},iw w lo hi b g bs ks→lo≤hi
 | [],_,_,h=>by simp only[iw]at h;exact h.2
 | t::ts,_,_,h=>by
  simp only[iw]at h;obtain⟨x,xs,l,hh,e,a1,a2,a3,_⟩:=h
  omega
theorem iw.length {w:World} {hi b:Nat} {g:Option Nat}:∀{ks:List Tree} {bs:List Nat} {lo:Nat},iw w lo hi b g bs ks→bs.length=ks.length
 | [],_,_,h=>by simp only[iw]at h;simp[h.1]
 | t::ts,_,_,h=>by
  simp only[iw]at h;obtain⟨x,xs,l,hh,rfl,a1,a2,a3,a4,a5,a6,a7⟩:=h
  simp[iw.length a7]
theorem iw.snoc {w:World} {hi b:Nat} {g g':Option Nat} {l h x:Nat} {t:Tree} (hl:hi≤l) (ht:Sp w l h x t) (hlh:l≤h) (hb:b<l∨h≤b) (hg:∀k,g'=some k→k<l∨h≤k) (hgg:∀k,g'=some k→g=some k∨hi≤k) :
  ∀{ks:List Tree} {bs:List Nat} {lo:Nat},iw w lo hi b g bs ks→iw w lo h b g' (bs++[x]) (ks++[t])
 | [],bs,lo,hk=>by
  simp only[iw]at hk;obtain⟨rfl,h1⟩:=hk
  simp only[List.nil_append,iw];exact⟨x,[],l,h,rfl,by omega,hlh,Nat.le_refl _,hb,hg,ht,rfl,Nat.le_refl _⟩
 | k::ks,bs,lo,hk=>by
  simp only[iw]at hk;obtain⟨y,ys,l',h',rfl,a1,a2,a3,a4,a5,a6,a7⟩:=hk
  simp only[List.cons_append,iw];exact⟨y,ys++[x],l',h',rfl,a1,a2,by omega,a4,fun k hk=>(hgg k hk).elim (a5 k) (fun h1=>.inr (by omega)),a6,iw.snoc hl ht hlh hb hg hgg a7⟩
theorem Sp.fr {w w':World} {S:List Nat} {lo hi b:Nat} {t:Tree} (h:Sp w lo hi b t) (hf:Fr S w w') (hS:∀x∈S,x<lo∨hi≤x) (hw:hi≤w.heap.size):Sp w' lo hi b t :=
 h.keep (fun k h1 h2=>hf.block k (by omega) (fun hm=>by rcases hS k hm with h3|h3<;>omega)) (Nat.le_refl _) (Nat.le_refl _)
theorem Sp.wide {w:World} {lo hi lo' hi' b:Nat} {t:Tree} (h:Sp w lo hi b t) (h1:lo'≤lo) (h2:hi≤hi'):Sp w lo' hi' b t:=h.keep (fun _ _ _=>rfl) h1 h2
theorem iw.wide {w:World} {lo hi lo' hi' b:Nat} {g:Option Nat} {bs:List Nat} {ks:List Tree} (h:iw w lo hi b g bs ks) (h1:lo'≤lo) (h2:hi≤hi'):iw w lo' hi' b g bs ks:=h.keep (fun _ _ _=>rfl) h1 h2
theorem aK (kind at':Int) (text:Bytes) (vk:Value) (w:World) (hvk:∃p n c,vk=.slice p n c) :
  Calls Tryz.prog 39 #[.int .i64 kind,.int .i64 at',.string ⟨text.toArray⟩,vk] w fun e w'=>e=.returned (.pointer (some ⟨w.heap.size,0,none⟩))∧w'=w.alloc (.cells #[.int .i64 kind,.int .i64 at',.int .i64 0,.string ⟨text.toArray⟩,.int .i64 0,.int .u64 0,vk] 90):=by
 obtain⟨p,n,c,rfl⟩:=hvk
 go_enter Tryz.func39,Tryz.ntmps39;go_wp2;go_ret;exact⟨rfl,rfl⟩
def Vo (S:jf) (w:World) (lo:Nat) (T:Tree) (ts':TS) (e:Ending) (w':World):Prop :=
 ∃b a',e=.returned (.pointer (some ⟨b,0,none⟩))∧ts'=S.ts a'∧PS S a' w'∧Fr [S.bp] w w'∧Sp w' lo w'.heap.size b T
theorem iw.re {w:World} {hi b b':Nat} {g g':Option Nat} (hb:hi≤b') (hg:∀k,g'=some k→hi≤k):∀{ks:List Tree} {bs:List Nat} {lo:Nat},iw w lo hi b g bs ks→iw w lo hi b' g' bs ks
 | [],bs,lo,h=>by simp only[iw]at h ⊢;exact h
 | t::ts,bs,lo,h=>by
  simp only[iw]at h ⊢;obtain⟨x,xs,l,hh,e,a1,a2,a3,a4,a5,a6,a7⟩:=h
  exact⟨x,xs,l,hh,e,a1,a2,a3,.inr (by omega),fun k hk=>.inr (by have:=hg k hk;omega),a6,iw.re hb hg a7⟩
theorem iw.none {w:World} {lo hi b:Nat} {g:Option Nat} (h:lo≤hi):iw w lo hi b g [] []:=by simp only[iw];exact⟨trivial,h⟩
def Kids (w:World) (lo:Nat) (bs:List Nat) (ks:List Tree):Prop:=∃hi,hi≤w.heap.size∧iw w lo hi hi Option.none bs ks
theorem Kids.nil (w:World) (lo:Nat) (h:lo≤w.heap.size):Kids w lo [] []:=⟨lo,h,iw.none (Nat.le_refl _)⟩
theorem Kids.snoc {w w':World} {lo x:Nat} {bs:List Nat} {ks:List Tree} {t:Tree} {S:List Nat} (h:Kids w lo bs ks) (hf:Fr S w w') (hS:∀x∈S,x<lo) (ht:Sp w' w.heap.size w'.heap.size x t):Kids w' lo (bs++[x]) (ks++[t]):=by
 obtain⟨hi,h1,h2⟩:=h
 have hx:=ht.lt;refine⟨w'.heap.size,Nat.le_refl _,?_⟩;have h3:iw w' lo hi w'.heap.size Option.none bs ks:=(h2.keep (fun k k1 k2=>hf.block k (by omega) (fun hm=>by have:=hS k hm;omega)) (Nat.le_refl _) (Nat.le_refl _)).re (by have:=hf.size;omega) (fun k e=>by cases e);exact iw.snoc (g:=Option.none) h1 ht (by omega) (.inr (Nat.le_refl _)) (fun k e=>by cases e) (fun k e=>by cases e) h3
theorem Kids.fr {w w':World} {lo:Nat} {bs:List Nat} {ks:List Tree} {S:List Nat} (h:Kids w lo bs ks) (hf:Fr S w w') (hS:∀x∈S,x<lo):Kids w' lo bs ks:=by
 obtain⟨hi,h1,h2⟩:=h
 exact⟨hi,by have:=hf.size;omega,h2.keep (fun k k1 k2=>hf.block k (by omega) (fun hm=>by have:=hS k hm;omega)) (Nat.le_refl _) (Nat.le_refl _)⟩
theorem Kids.one {w:World} {lo hi x:Nat} {t:Tree} (ht:Sp w lo hi x t) (h:hi≤w.heap.size):Kids w lo [x] [t]:=by
 have hx:=ht.lt;refine⟨hi,h,?_⟩
 have:=iw.snoc (w:=w) (hi:=lo) (b:=hi) (g:=Option.none) (g':=Option.none) (Nat.le_refl lo) ht (by omega) (.inr (Nat.le_refl _)) (fun k e=>by cases e) (fun k e=>by cases e) (iw.none (Nat.le_refl lo))
 exact this
theorem Kids.made {w:World} {lo:Nat} {bs:List Nat} {ks:List Tree} (h:Kids w lo bs ks) (n:Ck.Node) (z:Int) (hl:bs.length≤9) (h0:lo≤w.heap.size) :
  Sp ((w.alloc (.cells (ptrs bs).toArray 55)).alloc (.cells (aj n z (.slice (some ⟨w.heap.size,0,Option.none⟩) bs.length bs.length)) 90)) lo (w.heap.size+1+1) (w.heap.size+1) (.mk n ks):=by
 obtain⟨hi,h1,h2⟩:=h
 have hlen:=h2.length;have hnew:=au.new (w.alloc (.cells (ptrs bs).toArray 55)) (aj n z (.slice (some ⟨w.heap.size,0,Option.none⟩) bs.length bs.length)) 90;simp only[World.size_alloc]at hnew;have hrow:=(au.new w (ptrs bs).toArray 55).alloc (.cells (aj n z (.slice (some ⟨w.heap.size,0,Option.none⟩) bs.length bs.length)) 90);have hf:Fr [] w ((w.alloc (.cells (ptrs bs).toArray 55)).alloc (.cells (aj n z (.slice (some ⟨w.heap.size,0,Option.none⟩) bs.length bs.length)) 90)):=((Fr.refl _ _).alloc _).alloc _;simp only[Sp];refine⟨by omega,by omega,z,_,bs,hnew,⟨by simp[ptrs,hlen],.inr ⟨w.heap.size,bs.length,(ptrs bs).toArray,by rw[hlen],h0,hrow,by omega,by simp[maxLen];omega,by simp[ptrs],by rw[←hlen,Nat.mul_one];simp only[ptrs];exact List.take_of_length_le (by simp)⟩⟩,fun g hg=>by simp[Value.ownBlock]at hg;omega,?_⟩;refine(h2.keep (fun k k1 k2=>hf.block k (by omega) (by simp)) (Nat.le_refl _) (Nat.le_refl _)).re (b':=w.heap.size+1) (g':=some w.heap.size) (by omega) (fun k e=>by cases e;omega) |>.wide (Nat.le_refl _) (by omega)
abbrev Lu (S:jf) (m:Nat→Ck.P Tree):Prop:=∀(k a:Nat) (w:World) (T:Tree) (ts':TS),k≤6→PS S a w→m k (S.ts a)=some (.ok (T,ts')) →
  Calls Tryz.prog 258 #[.pointer (some ⟨S.bp,0,none⟩),.int .i64 k] w (Vo S w w.heap.size T ts')
abbrev Lv (S:jf) (m:Nat→Ck.P Tree):Prop:=∀(k a:Nat) (w:World) (f:dS),k≤6→PS S a w→m k (S.ts a)=some (.error f) →
  Calls Tryz.prog 258 #[.pointer (some ⟨S.bp,0,none⟩),.int .i64 k] w (Er S w f)
theorem OU {S:jf} {r:Rec} (ih:Lu S r.level) {a k:Nat} {w:World} (h:PS S a w) (hk:k≤6) {L T:Tree} {lo hi bl:Nat} (hL:Sp w lo hi bl L) (hlo:S.bp<lo) (hhi:hi≤w.heap.size) {ts':TS}
  (hm:zF S.F r L k (S.ts a)=some (.ok (T,ts'))) :
  Calls Tryz.prog 259 #[.pointer (some ⟨S.bp,0,none⟩),.pointer (some ⟨bl,0,none⟩),.int .i64 k] w (Vo S w lo T ts'):=by
 unfold zF at hm;obtain⟨e,_,h0⟩|⟨t,xg,hm1,hm⟩:=bind_some hm
 ·cases h0
 obtain⟨e,_,h0⟩|⟨R,tL,hm2,hm⟩:=bind_some hm
 ·cases h0
 rw[aZ]at hm
 simp only[Option.some.injEq,Except.ok.injEq,Prod.mk.injEq]at hm;obtain⟨rfl,rfl⟩:=hm
 have c1:=gy h hm1;have hbp:=h.blk.lt;clear hm1;go_enter Tryz.func259,Tryz.ntmps259
 go_wp2_with (go_at_call 42;refine c1.mono ?_;rintro e w1 ⟨rfl,a1,rfl,aA,hf1⟩)
 have TM:=au.new w1 #[.int .i64 t.kind,.int .i64 t.at',.string ⟨t.text.toArray⟩,.int .i64 t.int,.int .u64 t.bits] 82;obtain⟨kc,kz,aH,kb⟩:=TM.rules
 have hb8:au (w1.alloc (.cells #[.int .i64 t.kind,.int .i64 t.at',.string ⟨t.text.toArray⟩,.int .i64 t.int,.int .u64 t.bits] 82)).drew w1.heap.size #[.int .i64 t.kind,.int .i64 t.at',.string ⟨t.text.toArray⟩,.int .i64 t.int,.int .u64 t.bits] 82:=TM;have hw1:=hf1.size
 go_region_held3 (fun X=>X.cell? ⟨w1.heap.size,1,none⟩=some (.int .i64 t.at')∧X.cell? ⟨w1.heap.size,2,none⟩=some (.string ⟨t.text.toArray⟩)) (first|go_keep|(refine⟨?_,?_⟩<;>rw[Rb]<;>rfl)) (first|(go_at_call 258;refine(ih k a1 _ R tL hk (aA.fr ((Fr.refl [] _).alloc _).drew) hm2).mono ?_;rintro e w2 ⟨b2,a2,rfl,rfl,aG,hf2,hs2⟩;obtain⟨Rb,kz2,Vp,kb2⟩:=(hb8.fr hf2 (by simp;omega)).rules)|(go_at_call 39;refine(aK _ _ _ _ _ ⟨_,_,_,rfl⟩).mono ?_;rintro e w3 ⟨rfl,rfl⟩))
 go_wp2;go_ret;have hfa:Fr [S.bp] w (w1.alloc (.cells #[.int .i64 t.kind,.int .i64 t.at',.string ⟨t.text.toArray⟩,.int .i64 t.int,.int .u64 t.bits] 82)).drew:=(hf1.alloc _).drew;have hK:=(Kids.one (hL.fr hfa (by simp;omega) hhi) (by have:=hfa.size;omega)).snoc hf2 (by simp;omega) hs2;have hM:=hK.made ⟨21,t.at',0,t.text,0,0⟩ 0 (by simp) (by have:=hfa.size;have:=hf2.size;have:=hL.lt;omega);refine⟨_,a2,rfl,rfl,aG.fr (((Fr.refl _ _).alloc _).alloc _),((hfa.trans hf2).alloc _).alloc _,?_⟩;simpa[aj,ptrs,cZ,leaf]using hM
theorem OV {S:jf} {r:Rec} (ih:Lv S r.level) {a k:Nat} {w:World} (h:PS S a w) (hk:k≤6) {L:Tree} {bl:Nat} {f:dS}
  (hm:zF S.F r L k (S.ts a)=some (.error f)) :
  Calls Tryz.prog 259 #[.pointer (some ⟨S.bp,0,none⟩),.pointer (some ⟨bl,0,none⟩),.int .i64 k] w (Er S w f):=by
 unfold zF at hm;have hbp:=h.blk.lt;obtain⟨e,hm1,h0⟩|⟨t,xg,hm1,hm⟩:=bind_some hm
 ·cases h0;have c1:=kX h hm1;clear hm1 hm;go_enter Tryz.func259,Tryz.ntmps259
  go_wp2_with (go_at_call 42;refine c1.mono ?_;rintro e w1 ⟨rfl,hf1⟩)
  exact⟨rfl,rfl,hf1⟩
 obtain⟨e,hm2,h0⟩|⟨R,tL,hm2,hm⟩:=bind_some hm
 ·cases h0;have c1:=gy h hm1;clear hm1 hm;go_enter Tryz.func259,Tryz.ntmps259
  go_wp2_with (go_at_call 42;refine c1.mono ?_;rintro e w1 ⟨rfl,a1,rfl,aA,hf1⟩)
  have TM:=au.new w1 #[.int .i64 t.kind,.int .i64 t.at',.string ⟨t.text.toArray⟩,.int .i64 t.int,.int .u64 t.bits] 82;obtain⟨kc,kz,aH,kb⟩:=TM.rules
  go_region_dies
  all_goals (go_at_call 258;refine(ih k a1 _ f hk (aA.fr ((Fr.refl [] _).alloc _).drew) hm2).mono ?_;rintro e w2 ⟨rfl,hf2⟩)
  all_goals exact⟨rfl,rfl,((hf1.alloc _).drew).trans hf2⟩
 ·cases hm
def Rv (S:jf) (w:World) (lo:Nat):Except dS (Tree × TS)→Ending→World→Prop
 | .ok (T,ts')=>Vo S w lo T ts'
 | .error f=>Er S w f
abbrev iU (fn:Nat) (S:jf) (m:Ck.P Tree):Prop:=∀(a:Nat) (w:World) (r:Except dS (Tree × TS)),PS S a w→m (S.ts a)=some r→Calls Tryz.prog fn #[.pointer (some ⟨S.bp,0,none⟩)] w (Rv S w w.heap.size r)
theorem OW {S:jf} {r:Rec} {n:Nat} (ih:iU 186 S r.and'):iU 154 S (Li S.F r n):=by
 intro a w res h hm;unfold Li at hm;have hbp:=h.blk.lt;obtain⟨e,hm1,rfl⟩|⟨E,xg,hm1,hm⟩:=bind_some hm
 ·have c1:=ih a w _ h hm1;go_enter Tryz.func154,Tryz.ntmps154
  go_wp2_with (go_at_call 186;refine c1.mono ?_;rintro e w1 ⟨rfl,hf1⟩)
  exact⟨rfl,rfl,hf1⟩
 have c1:=ih a w _ h hm1;clear hm1;go_enter Tryz.func154,Tryz.ntmps154
 go_wp2_with (go_at_call 186;refine c1.mono ?_;rintro e w1 ⟨b1,a1,rfl,rfl,aA,hf1,hs1⟩;clear c1)
 go_loopg [3] n (fun k v wr=>∃b,v=.pointer (some ⟨b,0,none⟩)∧Hid (∃E a,vF S.F r k E (S.ts a)=some res∧PS S a wr∧Fr [S.bp] w wr∧Sp wr w.heap.size wr.heap.size b E))
 case atStart=>exact⟨b1,rfl,E,a1,hm,aA,hf1,hs1⟩
 case round =>
  obtain⟨b,rfl,hq⟩:=hrel
  obtain⟨E,a,hm,hps,hf,hs⟩:=hq.out
  clear hq;have hbw:=hf.size;cases gk with
  | zero=>cases hm
  | succ k =>
   simp only[vF]at hm;have bg:=hps.fr ((Fr.refl [] wr).alloc (.cells #[.string ⟨#[111,114]⟩] 9));have hv:=str1 wr [111,114];obtain⟨e,hm1,rfl⟩|⟨c,xg,hm1,hm⟩:=bind_some hm
   ·have c1:=mE bg hv (by simp) hm1
    go_wp2_with (go_at_call 72;refine c1.mono ?_;rintro e w1 ⟨rfl,hf1⟩)
    exact⟨rfl,rfl,(hf.trans ((Fr.refl _ wr).alloc _)).trans hf1⟩
   have c1:=iT bg hv (by simp) hm1;cases c
   ·simp only[Bool.false_eq_true,if_false,aZ,Option.some.injEq]at hm;subst hm
    go_wp2_with (go_at_call 72;refine c1.mono ?_;rintro e w1 ⟨rfl,rfl,aA,hf1⟩;clear c1)
    go_ret;have hf2:Fr [S.bp] wr w1:=((Fr.refl _ wr).alloc _).trans hf1.nil;exact⟨b,a,rfl,rfl,aA,hf.trans hf2,(hs.fr hf2 (by simp;omega) (Nat.le_refl _)).wide (Nat.le_refl _) hf2.size⟩
   ·simp only[if_true]at hm;obtain⟨e,hm2,rfl⟩|⟨at',tL,hm2,hm⟩:=bind_some hm
    ·go_wp2_with (first|(go_at_call 72;refine c1.mono ?_;rintro e w1 ⟨rfl,rfl,aA,hf1⟩;clear c1)|(go_at_call 43;refine(gQ aA hm2).mono ?_;rintro e w2 ⟨rfl,hf2⟩))
     exact⟨rfl,rfl,((hf.trans ((Fr.refl _ wr).alloc _)).trans hf1.nil).trans hf2⟩
    obtain⟨e,dH,rfl⟩|⟨G,wR,dH,hm⟩:=bind_some hm
    ·go_wp2_with (first|(go_at_call 72;refine c1.mono ?_;rintro e w1 ⟨rfl,rfl,aA,hf1⟩;clear c1)|(go_at_call 43;refine(dZ aA hm2).mono ?_;rintro e w2 ⟨rfl,a2,rfl,aG,hf2⟩;clear hm2)|(go_at_call 186;refine(ih _ _ _ aG dH).mono ?_;rintro e w3 ⟨rfl,hf3⟩))
     exact⟨rfl,rfl,(((hf.trans ((Fr.refl _ wr).alloc _)).trans hf1.nil).trans hf2).trans hf3⟩
    have HM:=Lib.hid hm;clear hm
    go_wp2_with (first|(go_at_call 72;refine c1.mono ?_;rintro e w1 ⟨rfl,rfl,aA,hf1⟩;clear c1)|(go_at_call 43;refine(dZ aA hm2).mono ?_;rintro e w2 ⟨rfl,a2,rfl,aG,hf2⟩;clear hm2)|(go_at_call 186;refine(ih _ _ _ aG dH).mono ?_;rintro e w3 ⟨b3,a3,rfl,rfl,bY,hf3,hs3⟩;clear dH)|(go_at_call 39;refine(aK _ _ _ _ _ ⟨_,_,_,rfl⟩).mono ?_;rintro e w4 ⟨rfl,rfl⟩))
    go_roundg k
    case measure=>omega
    case rel =>
     have hfa:Fr [S.bp] wr w2:=(((Fr.refl _ wr).alloc _).trans hf1.nil).trans hf2;have hK:=(Kids.one (hs.fr hfa (by simp;omega) (Nat.le_refl _)) hfa.size).snoc hf3 (by simp;omega) hs3;have hM:=hK.made ⟨18,at',0,[],0,0⟩ 0 (by simp) (by have:=hfa.size;have:=hf3.size;omega);refine⟨_,rfl,leaf 18 at' [] [E,G],a3,HM.out,bY.fr (((Fr.refl _ _).alloc _).alloc _),(((hf.trans hfa).trans hf3).alloc _).alloc _,?_⟩;simpa[aj,ptrs,cZ,leaf]using hM
theorem Rw {S:jf} {r:Rec} {n:Nat} (ih:iU 217 S r.not'):iU 186 S (Rl S.F r n):=by
 intro a w res h hm;unfold Rl at hm;have hbp:=h.blk.lt;obtain⟨e,hm1,rfl⟩|⟨E,xg,hm1,hm⟩:=bind_some hm
 ·have c1:=ih a w _ h hm1;go_enter Tryz.func186,Tryz.ntmps186
  go_wp2_with (go_at_call 217;refine c1.mono ?_;rintro e w1 ⟨rfl,hf1⟩)
  exact⟨rfl,rfl,hf1⟩
 have c1:=ih a w _ h hm1;clear hm1;go_enter Tryz.func186,Tryz.ntmps186
 go_wp2_with (go_at_call 217;refine c1.mono ?_;rintro e w1 ⟨b1,a1,rfl,rfl,aA,hf1,hs1⟩;clear c1)
 go_loopg [3] n (fun k v wr=>∃b,v=.pointer (some ⟨b,0,none⟩)∧Hid (∃E a,ED S.F r k E (S.ts a)=some res∧PS S a wr∧Fr [S.bp] w wr∧Sp wr w.heap.size wr.heap.size b E))
 case atStart=>exact⟨b1,rfl,E,a1,hm,aA,hf1,hs1⟩
 case round =>
  obtain⟨b,rfl,hq⟩:=hrel
  obtain⟨E,a,hm,hps,hf,hs⟩:=hq.out
  clear hq;have hbw:=hf.size;cases gk with
  | zero=>cases hm
  | succ k =>
   simp only[ED]at hm;have bg:=hps.fr ((Fr.refl [] wr).alloc (.cells #[.string ⟨#[97,110,100]⟩] 9));have hv:=str1 wr [97,110,100];obtain⟨e,hm1,rfl⟩|⟨c,xg,hm1,hm⟩:=bind_some hm
   ·have c1:=mE bg hv (by simp) hm1
    go_wp2_with (go_at_call 72;refine c1.mono ?_;rintro e w1 ⟨rfl,hf1⟩)
    exact⟨rfl,rfl,(hf.trans ((Fr.refl _ wr).alloc _)).trans hf1⟩
   have c1:=iT bg hv (by simp) hm1;cases c
   ·simp only[Bool.false_eq_true,if_false,aZ,Option.some.injEq]at hm;subst hm
    go_wp2_with (go_at_call 72;refine c1.mono ?_;rintro e w1 ⟨rfl,rfl,aA,hf1⟩;clear c1)
    go_ret;have hf2:Fr [S.bp] wr w1:=((Fr.refl _ wr).alloc _).trans hf1.nil;exact⟨b,a,rfl,rfl,aA,hf.trans hf2,(hs.fr hf2 (by simp;omega) (Nat.le_refl _)).wide (Nat.le_refl _) hf2.size⟩
   ·simp only[if_true]at hm;obtain⟨e,hm2,rfl⟩|⟨at',tL,hm2,hm⟩:=bind_some hm
    ·go_wp2_with (first|(go_at_call 72;refine c1.mono ?_;rintro e w1 ⟨rfl,rfl,aA,hf1⟩;clear c1)|(go_at_call 43;refine(gQ aA hm2).mono ?_;rintro e w2 ⟨rfl,hf2⟩))
     exact⟨rfl,rfl,((hf.trans ((Fr.refl _ wr).alloc _)).trans hf1.nil).trans hf2⟩
    obtain⟨e,dH,rfl⟩|⟨G,wR,dH,hm⟩:=bind_some hm
    ·go_wp2_with (first|(go_at_call 72;refine c1.mono ?_;rintro e w1 ⟨rfl,rfl,aA,hf1⟩;clear c1)|(go_at_call 43;refine(dZ aA hm2).mono ?_;rintro e w2 ⟨rfl,a2,rfl,aG,hf2⟩;clear hm2)|(go_at_call 217;refine(ih _ _ _ aG dH).mono ?_;rintro e w3 ⟨rfl,hf3⟩))
     exact⟨rfl,rfl,(((hf.trans ((Fr.refl _ wr).alloc _)).trans hf1.nil).trans hf2).trans hf3⟩
    have HM:=Lib.hid hm;clear hm
    go_wp2_with (first|(go_at_call 72;refine c1.mono ?_;rintro e w1 ⟨rfl,rfl,aA,hf1⟩;clear c1)|(go_at_call 43;refine(dZ aA hm2).mono ?_;rintro e w2 ⟨rfl,a2,rfl,aG,hf2⟩;clear hm2)|(go_at_call 217;refine(ih _ _ _ aG dH).mono ?_;rintro e w3 ⟨b3,a3,rfl,rfl,bY,hf3,hs3⟩;clear dH)|(go_at_call 39;refine(aK _ _ _ _ _ ⟨_,_,_,rfl⟩).mono ?_;rintro e w4 ⟨rfl,rfl⟩))
    go_roundg k
    case measure=>omega
    case rel =>
     have hfa:Fr [S.bp] wr w2:=(((Fr.refl _ wr).alloc _).trans hf1.nil).trans hf2;have hK:=(Kids.one (hs.fr hfa (by simp;omega) (Nat.le_refl _)) hfa.size).snoc hf3 (by simp;omega) hs3;have hM:=hK.made ⟨19,at',0,[],0,0⟩ 0 (by simp) (by have:=hfa.size;have:=hf3.size;omega);refine⟨_,rfl,leaf 19 at' [] [E,G],a3,HM.out,bY.fr (((Fr.refl _ _).alloc _).alloc _),(((hf.trans hfa).trans hf3).alloc _).alloc _,?_⟩;simpa[aj,ptrs,cZ,leaf]using hM
theorem MI {S:jf} {r:Rec} {n:Nat} (Vq:iU 286 S r.unary) (ihp:iU 298 S r.primary) (dO:iU 154 S r.expr) :
  iU 286 S (wU S.F r n):=by
 intro a w res h hm;unfold wU at hm;have hbp:=h.blk.lt;have bg:=h.fr ((Fr.refl [] w).alloc (.cells #[.string ⟨#[45]⟩,.string ⟨#[126]⟩] 9));have hv:bO (w.alloc (.cells #[.string ⟨#[45]⟩,.string ⟨#[126]⟩] 9)) (.slice (some ⟨w.heap.size,0,none⟩) 2 2) [[45],[126]]:=Rx w [[45],[126]];obtain⟨e,hm1,rfl⟩|⟨c,xg,hm1,hm⟩:=bind_some hm
 ·have c1:=mE bg hv (by simp) hm1;go_enter Tryz.func286,Tryz.ntmps286
  go_wp2_with (go_at_call 72;refine c1.mono ?_;rintro e w1 ⟨rfl,hf1⟩)
  exact⟨rfl,rfl,((Fr.refl _ w).alloc _).trans hf1⟩
 have c1:=iT bg hv (by simp) hm1;cases c
 ·simp only[Bool.false_eq_true,if_false]at hm;obtain⟨e,hm2,rfl⟩|⟨E,tL,hm2,hm⟩:=bind_some hm
  ·go_enter Tryz.func286,Tryz.ntmps286
   go_wp2_with (first|(go_at_call 72;refine c1.mono ?_;rintro e w1 ⟨rfl,rfl,aA,hf1⟩;clear c1)|(go_at_call 298;refine(ihp _ _ _ aA hm2).mono ?_;rintro e w2 ⟨rfl,hf2⟩))
   exact⟨rfl,rfl,(((Fr.refl _ w).alloc _).trans hf1.nil).trans hf2⟩
  clear hm1;have fM:=Lib.hid hm;clear hm;go_enter Tryz.func286,Tryz.ntmps286
  go_wp2_with (first|(go_at_call 72;refine c1.mono ?_;rintro e w1 ⟨rfl,rfl,aA,hf1⟩;clear c1)|(go_at_call 298;refine(ihp _ _ _ aA hm2).mono ?_;rintro e w2 ⟨b2,a2,rfl,rfl,aG,hf2,hs2⟩;clear hm2))
  have hfa:Fr [S.bp] w w2:=(((Fr.refl _ w).alloc _).trans hf1.nil).trans hf2;have Vr:=hf1.size;simp only[World.size_alloc]at Vr
  go_loopg [4] n (fun k v wr=>∃b,v=.pointer (some ⟨b,0,none⟩)∧Hid (∃E a,qO S.F r k E (S.ts a)=some res∧PS S a wr∧Fr [S.bp] w wr∧Sp wr w.heap.size wr.heap.size b E))
  case atStart=>exact⟨b2,rfl,E,a2,fM.out,aG,hfa,hs2.wide (by omega) (Nat.le_refl _)⟩
  case round =>
   clear bg hv aG hf2 hs2 hfa fM aA hf1 Vr;obtain⟨b,rfl,hq⟩:=hrel
   obtain⟨E,a,hm,hps,hf,hs⟩:=hq.out
   clear hq;have hbw:=hf.size;cases gk with
   | zero=>cases hm
   | succ k =>
    simp only[qO]at hm;have bg:=hps.fr ((Fr.refl [] wr).alloc (.cells #[.string ⟨#[91]⟩] 9));have hv:=str1 wr [91];obtain⟨e,hm1,rfl⟩|⟨c,xg,hm1,hm⟩:=bind_some hm
    ·have c1:=mE bg hv (by simp) hm1
     go_wp2_with (go_at_call 72;refine c1.mono ?_;rintro e w1 ⟨rfl,hf1⟩)
     exact⟨rfl,rfl,(hf.trans ((Fr.refl _ wr).alloc _)).trans hf1⟩
    have c1:=iT bg hv (by simp) hm1;cases c
    ·simp only[Bool.false_eq_true,if_false,aZ,Option.some.injEq]at hm;subst hm
     go_wp2_with (go_at_call 72;refine c1.mono ?_;rintro e w1 ⟨rfl,rfl,aA,hf1⟩;clear c1)
     go_ret;have hf2:Fr [S.bp] wr w1:=((Fr.refl _ wr).alloc _).trans hf1.nil;exact⟨b,a,rfl,rfl,aA,hf.trans hf2,(hs.fr hf2 (by simp;omega) (Nat.le_refl _)).wide (Nat.le_refl _) hf2.size⟩
    ·simp only[if_true]at hm;obtain⟨e,hm2,rfl⟩|⟨at',tL,hm2,hm⟩:=bind_some hm
     ·go_wp2_with (first|(go_at_call 72;refine c1.mono ?_;rintro e w1 ⟨rfl,rfl,aA,hf1⟩;clear c1)|(go_at_call 43;refine(gQ aA hm2).mono ?_;rintro e w2 ⟨rfl,hf2⟩))
      exact⟨rfl,rfl,((hf.trans ((Fr.refl _ wr).alloc _)).trans hf1.nil).trans hf2⟩
     obtain⟨e,dH,rfl⟩|⟨G,wR,dH,hm⟩:=bind_some hm
     ·go_wp2_with (first|(go_at_call 72;refine c1.mono ?_;rintro e w1 ⟨rfl,rfl,aA,hf1⟩;clear c1)|(go_at_call 43;refine(dZ aA hm2).mono ?_;rintro e w2 ⟨rfl,a2,rfl,aG,hf2⟩;clear hm2)|(go_at_call 154;refine(dO _ _ _ aG dH).mono ?_;rintro e w3 ⟨rfl,hf3⟩))
      exact⟨rfl,rfl,(((hf.trans ((Fr.refl _ wr).alloc _)).trans hf1.nil).trans hf2).trans hf3⟩
     obtain⟨e,iV,rfl⟩|⟨u,Jy,iV,hm⟩:=bind_some hm
     ·go_wp2_with (first|(go_at_call 72;refine c1.mono ?_;rintro e w1 ⟨rfl,rfl,aA,hf1⟩;clear c1)|(go_at_call 43;refine(dZ aA hm2).mono ?_;rintro e w2 ⟨rfl,a2,rfl,aG,hf2⟩;clear hm2)|(go_at_call 154;refine(dO _ _ _ aG dH).mono ?_;rintro e w3 ⟨b3,a3,rfl,rfl,bY,hf3,hs3⟩;clear dH)|(go_at_call 39;refine(aK _ _ _ _ _ ⟨_,_,_,rfl⟩).mono ?_;rintro e w4 ⟨rfl,rfl⟩)|(go_at_call 43;refine(gQ (bY.fr (((Fr.refl _ _).alloc _).alloc _)) iV).mono ?_;rintro e w5 ⟨rfl,fF⟩))
      exact⟨rfl,rfl,((((((hf.trans ((Fr.refl _ wr).alloc _)).trans hf1.nil).trans hf2).trans hf3).alloc _).alloc _).trans fF⟩
     have HM:=Lib.hid hm;clear hm
     go_wp2_with (first|(go_at_call 72;refine c1.mono ?_;rintro e w1 ⟨rfl,rfl,aA,hf1⟩;clear c1)|(go_at_call 43;refine(dZ aA hm2).mono ?_;rintro e w2 ⟨rfl,a2,rfl,aG,hf2⟩;clear hm2)|(go_at_call 154;refine(dO _ _ _ aG dH).mono ?_;rintro e w3 ⟨b3,a3,rfl,rfl,bY,hf3,hs3⟩;clear dH)|(go_at_call 39;refine(aK _ _ _ _ _ ⟨_,_,_,rfl⟩).mono ?_;rintro e w4 ⟨rfl,rfl⟩)|(go_at_call 43;refine(dZ (bY.fr (((Fr.refl _ _).alloc _).alloc _)) iV).mono ?_;rintro e w5 ⟨rfl,a5,rfl,ng,fF⟩;clear iV))
     go_roundg k
     case measure=>omega
     case rel =>
      have hfa:Fr [S.bp] wr w2:=(((Fr.refl _ wr).alloc _).trans hf1.nil).trans hf2;have hK:=(Kids.one (hs.fr hfa (by simp;omega) (Nat.le_refl _)) hfa.size).snoc hf3 (by simp;omega) hs3;have hM:=hK.made ⟨24,at',0,[],0,0⟩ 0 (by simp) (by have:=hfa.size;have:=hf3.size;omega);have hM':=hM.fr fF (by simp;omega) (by simp);refine⟨_,rfl,leaf 24 at' [] [E,G],a5,HM.out,ng,(((((hf.trans hfa).trans hf3).alloc _).alloc _).trans fF),?_⟩
      have:=hM'.wide (hi':=w5.heap.size) (Nat.le_refl _) (by have:=fF.size;simpa using this)
      simpa[aj,ptrs,cZ,leaf]using this
 ·simp only[if_true]at hm;obtain⟨e,hm2,rfl⟩|⟨t,tL,hm2,hm⟩:=bind_some hm
  ·go_enter Tryz.func286,Tryz.ntmps286
   go_wp2_with (first|(go_at_call 72;refine c1.mono ?_;rintro e w1 ⟨rfl,rfl,aA,hf1⟩;clear c1)|(go_at_call 42;refine(kX aA hm2).mono ?_;rintro e w2 ⟨rfl,hf2⟩))
   exact⟨rfl,rfl,(((Fr.refl _ w).alloc _).trans hf1.nil).trans hf2⟩
  obtain⟨e,dH,rfl⟩|⟨G,wR,dH,hm⟩:=bind_some hm
  ·go_enter Tryz.func286,Tryz.ntmps286
   go_wp2_with (first|(go_at_call 72;refine c1.mono ?_;rintro e w1 ⟨rfl,rfl,aA,hf1⟩;clear c1)|(go_at_call 42;refine(gy aA hm2).mono ?_;rintro e w2 ⟨rfl,a2,rfl,aG,hf2⟩;clear hm2))
   obtain⟨kc,kz,aH,kb⟩:=(au.new w2 #[.int .i64 t.kind,.int .i64 t.at',.string ⟨t.text.toArray⟩,.int .i64 t.int,.int .u64 t.bits] 82).rules
   go_region_dies
   all_goals (go_at_call 286;refine(Vq _ _ _ (aG.fr ((Fr.refl [] _).alloc _).drew) dH).mono ?_;rintro e w3 ⟨rfl,hf3⟩)
   all_goals exact⟨rfl,rfl,((((((Fr.refl _ w).alloc _).trans hf1.nil).trans hf2).alloc _).drew).trans hf3⟩
  ·rw[aZ]at hm
   simp only[Option.some.injEq]at hm;subst hm;go_enter Tryz.func286,Tryz.ntmps286
   go_wp2_with (first|(go_at_call 72;refine c1.mono ?_;rintro e w1 ⟨rfl,rfl,aA,hf1⟩;clear c1)|(go_at_call 42;refine(gy aA hm2).mono ?_;rintro e w2 ⟨rfl,a2,rfl,aG,hf2⟩;clear hm2))
   have TM:=au.new w2 #[.int .i64 t.kind,.int .i64 t.at',.string ⟨t.text.toArray⟩,.int .i64 t.int,.int .u64 t.bits] 82;obtain⟨kc,kz,aH,kb⟩:=TM.rules
   have hb8:au (w2.alloc (.cells #[.int .i64 t.kind,.int .i64 t.at',.string ⟨t.text.toArray⟩,.int .i64 t.int,.int .u64 t.bits] 82)).drew w2.heap.size #[.int .i64 t.kind,.int .i64 t.at',.string ⟨t.text.toArray⟩,.int .i64 t.int,.int .u64 t.bits] 82:=TM;have hfa:Fr [S.bp] w w2:=(((Fr.refl _ w).alloc _).trans hf1.nil).trans hf2;have hw1:=hfa.size
   go_region_held3 (fun X=>X.cell? ⟨w2.heap.size,1,none⟩=some (.int .i64 t.at')∧X.cell? ⟨w2.heap.size,2,none⟩=some (.string ⟨t.text.toArray⟩)) (first|go_keep|(refine⟨?_,?_⟩<;>rw[Rb]<;>rfl)) (first|(go_at_call 286;refine(Vq _ _ _ (aG.fr ((Fr.refl [] _).alloc _).drew) dH).mono ?_;rintro e w3 ⟨b3,a3,rfl,rfl,bY,hf3,hs3⟩;obtain⟨Rb,kz2,Vp,kb2⟩:=(hb8.fr hf3 (by simp;omega)).rules)|(go_at_call 39;refine(aK _ _ _ _ _ ⟨_,_,_,rfl⟩).mono ?_;rintro e w4 ⟨rfl,rfl⟩))
   go_wp2;go_ret;have hK:=Kids.one hs3 (Nat.le_refl _);have hM:=hK.made ⟨22,t.at',0,t.text,0,0⟩ 0 (by simp) hf3.size;refine⟨_,a3,rfl,rfl,bY.fr (((Fr.refl _ _).alloc _).alloc _),((((hfa.alloc _).drew).trans hf3).alloc _).alloc _,?_⟩;have hM':=hM.wide (lo':=w.heap.size) (hi':=w3.heap.size+1+1) (by simp;omega) (Nat.le_refl _);simpa[aj,ptrs,cZ,leaf]using hM'
end Go.Proofs.YtoomapkcoibmhaaGreatDoor
end
