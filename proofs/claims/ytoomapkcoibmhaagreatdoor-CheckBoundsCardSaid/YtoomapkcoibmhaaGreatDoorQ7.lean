/- A part of the proof. -/
import Derived.WalkKit
import Derived.WalkLawsBesides
import Derived.WalkSpells
import Derived.BigQuiet
import Derived.Deep.QuietTactic
import Derived.Deep.LoopGhost
import Derived.Deep.DeepFit
import Derived.Lib.Hide
import Derived.OrdersHeld
import Derived.KernelRfl
import Derived.RangeFuncNested
import Derived.Shelf.Spec.TrailingZeros
import Derived.Ground.Names7Prog
import Derived.Shelf.Strings.Builder1
import Derived.Shelf.Strings.Builder2
import Derived.Shelf.Strings.OnBuilder
import Derived.Shelf.Small.Bits
import Derived.Shelf.Small.Wraps
import Derived.Shelf.Strconv.Atoi
import Derived.Shelf.Strconv.Itoa0
import Derived.Shelf.Strconv.Itoa1
import Derived.Shelf.LaysM
import Derived.Shelf.Strconv.Itoa2
import Derived.Shelf.Strconv.Itoa3
import Derived.Shelf.Strconv.Itoa4
import Derived.Shelf.Strconv.AtoiErrFast
import Derived.Shelf.Strconv.ParseIntEmpty
import Derived.Shelf.Strconv.AtoiFail
import Derived.Shelf.Strconv.Clone
import Derived.Shelf.Strconv.SyntaxError
import Derived.Shelf.LaysC
import Derived.Shelf.Strconv.ToError
import Derived.Shelf.Strconv.Lower
import Derived.Shelf.Strconv.ParseUint10
import Derived.Shelf.Strconv.ParseUint10Empty
import Derived.Shelf.Strconv.ParseUint10Any
import Derived.Shelf.Strconv.ParseInt10
import Derived.Shelf.Strconv.AtoiLong
import Derived.Shelf.Strconv.AtoiInnerAll
import Derived.Shelf.Strconv.RangeError
import Derived.Shelf.Strconv.ToErrorRange
import Derived.Shelf.Strconv.AtoiAll
import Derived.Shelf.Strconv.ErrVarAll
import Derived.Shelf.Strconv.ParseUintEmpty
import Derived.Shelf.Strconv.ParseUint10b64
import Derived.Shelf.Strconv.ParseUint10b32
import Derived.Shelf.Strconv.ParseUint10b16
import Derived.Shelf.Strconv.ParseUint10b8
import Derived.Shelf.Strconv.ParseUint10At
import Derived.Shelf.Strconv.ParseInt10At64
import Derived.Shelf.Strconv.ParseInt10At32
import Derived.Shelf.Strconv.ParseInt10At16
import Derived.Shelf.Strconv.ParseInt10At8
import Derived.Shelf.Strconv.ParseInt10All
import Derived.Shelf.Strconv.ParseIntPublic10
import Derived.Shelf.Strconv.ErrVarParseInt
import Derived.Shelf.Sort.Plain
import Derived.Shelf.Strings.Prefix
import Derived.Shelf.Bits.Mul64
import Derived.Shelf.Slices.Turned
import Derived.Ground.Names2Prog
import Derived.Shelf.Slices.SearchI
import Derived.Test.YtoomapkcoibmhaaGreatDoorProg
import Derived.Test.YtoomapkcoibmhaaGreatDoorQ1
set_option maxRecDepth 100000
set_option maxHeartbeats 12800000
set_option linter.all false
section
open Go Go.RowKit
namespace Ck
theorem acts {α:Type}:(∀(l:List α) (i:Nat) (h:i<l.toArray.size),l.toArray[i]=l[i]'(by simpa using h))∧(∀(a:α) (l:List α) (h:0<(a::l).length),(a::l)[0]=a)∧(∀(a:α) (l:List α) (i:Nat) (h:i+1<(a::l).length),(a::l)[i+1]=l[i]'(Nat.lt_of_succ_lt_succ h))∧(∀(l:List α) (i:Nat) (a:α),l.toArray.setIfInBounds i a=(l.set i a).toArray)∧(∀(x:α) (l:List α) (a:α),(x::l).set 0 a=a::l)∧(∀(x:α) (l:List α) (n:Nat) (a:α),(x::l).set (n+1) a=x::l.set n a) :=
 ⟨fun _ _ _=>List.getElem_toArray _,fun _ _ _=>rfl,fun _ _ _ _=>rfl,fun _ _ _=>List.setIfInBounds_toArray _ _ _,fun _ _ _=>rfl,fun _ _ _ _=>rfl⟩
section
variable {P:Program} {ops:Array Oper} {Q:Exit→Act→World→Prop} {md:Region.Mode} {S:World→Prop}
theorem tk (i:Nat) (v:Value) {oi:Oper} {fuel:Nat} {listed:Array Bool} {a:Act} {w:World} (hi:ops[i]? = some oi) (hS:S w)
  (hy:∀w,S w→(execOp a.eval oi).run P w=.ok (.value v) w)
  (h:wpAnyH P md ops Q S fuel (listed.setIfInBounds i true) (a.put oi.dst v) w)
  (hs:Region.noSelect ops=true:=by kernel_rfl) (hf:Region.free md ops listed i=true:=by kernel_rfl) (hr:(Region.ready md ops listed).contains i=true:=by kernel_rfl)
  (hw:Region.wanted oi (yielded ops a.tmps)=true:=by kernel_rfl)
  (hQ:∀c a w,Q (.panic c) (a.put oi.dst v) w→Q (.panic c) a w:=by exact fun _ _ _ h=>h):wpAnyH P md ops Q S (fuel+1) listed a w :=
 wpAnyH_take hi hs hf hr hQ (.inl ⟨hw,hy⟩) hS h
theorem tkn (i:Nat) (v:Value) {oi:Oper} {fuel:Nat} {listed:Array Bool} {a:Act} {w:World} (hi:ops[i]? = some oi) (hS:S w)
  (hy:∀w,S w→(execOp a.eval oi).run P w=.ok (.value v) w)
  (h:wpAnyH P md ops Q S fuel (listed.setIfInBounds i true) (a.put oi.dst v) w)
  (hs:Region.noSelect ops=true:=by kernel_rfl) (hf:Region.free md ops listed i=true:=by kernel_rfl) (hr:(Region.ready md ops listed).contains i=true:=by kernel_rfl)
  (hw:Region.wanted oi (yielded ops a.tmps)=true:=by kernel_rfl)
  (hQ:∀c a w,Q (.panic c) (a.put oi.dst v) w→Q (.panic c) a w:=by exact fun _ _ _ h=>nomatch h.1):wpAnyH P md ops Q S (fuel+1) listed a w :=
 wpAnyH_take hi hs hf hr hQ (.inl ⟨hw,hy⟩) hS h
theorem tks (i:Nat) {oi:Oper} {fuel:Nat} {listed:Array Bool} {a:Act} {w:World} (hi:ops[i]? = some oi) (hS:S w)
  (h:wpAnyH P md ops Q S fuel (listed.setIfInBounds i true) (a.put oi.dst undef) w)
  (hs:Region.noSelect ops=true:=by kernel_rfl) (hf:Region.free md ops listed i=true:=by kernel_rfl) (hr:(Region.ready md ops listed).contains i=true:=by kernel_rfl)
  (hw:Region.wanted oi (yielded ops a.tmps)=false:=by kernel_rfl)
  (hQ:∀c a w,Q (.panic c) (a.put oi.dst undef) w→Q (.panic c) a w:=by exact fun _ _ _ h=>h):wpAnyH P md ops Q S (fuel+1) listed a w :=
 wpAnyH_take hi hs hf hr hQ (.inr ⟨hw,rfl⟩) hS h
end
@[go_sem] theorem SI (l:List UInt8) (a b:Nat):(⟨l.toArray⟩:ByteArray).extract a b=⟨((l.drop a).take (b-a)).toArray⟩:=by
 apply ByteArray.ext;simp[ByteArray.extract,ByteArray.copySlice]
@[go_sem] theorem Vb (l:List UInt8) (n:Nat):(l.drop n).take (l.length-n)=l.drop n:=by
 rw[List.take_of_length_le (by simp)]
@[go_sem] theorem SN (l:List UInt8) (i:Nat) (h:i<(⟨l.toArray⟩:ByteArray).size):(⟨l.toArray⟩:ByteArray)[i]'h=l[i]'(by simpa[ByteArray.size]using h):=rfl
structure Fr (S:List Nat) (w w':World):Prop where
 os:w'.os=w.os
 tape:w'.tape=w.tape
 output:w'.output=w.output
 size:w.heap.size≤w'.heap.size
 block:∀b,b<w.heap.size→b∉S→w'.heap[b]? = w.heap[b]?
theorem Fr.refl (S:List Nat) (w:World):Fr S w w:=⟨rfl,rfl,rfl,Nat.le_refl _,fun _ _ _=>rfl⟩
theorem Fr.trans {S:List Nat} {a b c:World} (h:Fr S a b) (k:Fr S b c):Fr S a c :=
 ⟨k.os.trans h.os,k.tape.trans h.tape,k.output.trans h.output,Nat.le_trans h.size k.size,
  fun i hi hs=>(k.block i (Nat.lt_of_lt_of_le hi h.size) hs).trans (h.block i hi hs)⟩
theorem Fr.sub {S T:List Nat} {a b:World} (h:Fr S a b) (hs:∀x,x∈S→x∈T∨a.heap.size≤x):Fr T a b :=
 ⟨h.os,h.tape,h.output,h.size,fun i hi ht=>h.block i hi (fun hm=>by
  rcases hs i hm with h1|h1
  ·exact ht h1
  ·omega)⟩
theorem Fr.nil {T:List Nat} {a b:World} (h:Fr [] a b):Fr T a b:=h.sub (by simp)
theorem Fr.alloc {S:List Nat} {a w:World} (h:Fr S a w) (o:Obj):Fr S a (w.alloc o) :=
 h.trans ⟨rfl,rfl,rfl,by simp,fun b hb _=>Below.heap_alloc w o b hb⟩
theorem Fr.drew {S:List Nat} {a w:World} (h:Fr S a w):Fr S a w.drew:=h.trans ⟨rfl,rfl,rfl,Nat.le_refl _,fun _ _ _=>rfl⟩
theorem Fr.drewN {S:List Nat} {a w:World} (h:Fr S a w) (n:Nat):Fr S a (w.drewN n):=h.trans ⟨rfl,rfl,rfl,Nat.le_refl _,fun _ _ _=>rfl⟩
theorem Fr.setCell {S:List Nat} {a w:World} (h:Fr S a w) {p:Addr} (hp:p.block∈S∨a.heap.size≤p.block) (u:Value):Fr S a (w.setCell p u) :=
 ⟨h.os,h.tape,h.output,by rw[World.size_setCell];exact h.size,fun b hb hs=>by
  rw[Below.heap_setCell w p u b (by rcases hp with h1|h1;(intro e;subst e;exact hs h1);omega)]
  exact h.block b hb hs⟩
theorem Fr.then {S T:List Nat} {a b c:World} (h:Fr S a b) (k:Fr T b c) (hs:∀x,x∈T→x∈S∨a.heap.size≤x):Fr S a c :=
 ⟨k.os.trans h.os,k.tape.trans h.tape,k.output.trans h.output,Nat.le_trans h.size k.size,
  fun i hi hn=>(k.block i (Nat.lt_of_lt_of_le hi h.size) (fun hm=>by
   rcases hs i hm with h1|h1
   ·exact hn h1
   ·omega)).trans (h.block i hi hn)⟩
theorem Fr.lt {S:List Nat} {a b:World} (h:Fr S a b) {x:Nat} (hx:x<a.heap.size):x<b.heap.size:=Nat.lt_of_lt_of_le hx h.size
theorem SQ {w:World} {p:Addr} {v:Value} (hc:w.cell? p=some v):p.block<w.heap.size:=by
 unfold World.cell? at hc;cases he:w.heap[p.block]? with
 | none=>simp[he]at hc
 | some o=>exact(Array.getElem?_eq_some_iff.1 he).1
theorem Fr.cell {S:List Nat} {a b:World} (h:Fr S a b) {p:Addr} {v:Value} (hc:a.cell? p=some v) (hp:p.block∉S):b.cell? p=some v:=by
 rw[←hc];exact World.cell?_of_block (h.block p.block (SQ hc) hp)
theorem Fr.nQ {S:List Nat} {a b:World} (h:Fr S a b) {p:Addr} (hl:p.block<a.heap.size) (hp:p.block∉S):b.cell? p=a.cell? p :=
 World.cell?_of_block (h.block p.block hl hp)
theorem Fr.frozen {S:List Nat} {a b:World} (h:Fr S a b) {p:Addr} (hl:p.block<a.heap.size) (hp:p.block∉S):b.frozen? p=a.frozen? p :=
 World.frozen?_of_block (h.block p.block hl hp)
theorem Fr.at {S:List Nat} {a b:World} (h:Fr S a b) {k:Nat} (hl:k<a.heap.size) (hp:k∉S) :
  (∀j,b.cell? ⟨k,j,none⟩=a.cell? ⟨k,j,none⟩)∧(∀j,b.frozen? ⟨k,j,none⟩=a.frozen? ⟨k,j,none⟩) :=
 ⟨fun j=>h.nQ (p:=⟨k,j,none⟩) hl hp,fun j=>h.frozen (p:=⟨k,j,none⟩) hl hp⟩
theorem Fr.below {a b:World} (h:Fr [] a b):Below a.heap.size a b :=
 ⟨h.os,h.tape,h.output,h.size,fun k hk=>h.block k hk (by simp)⟩
theorem Fr.of_below {a b:World} (h:Below a.heap.size a b):Fr [] a b :=
 ⟨h.os,h.tape,h.output,h.size,fun k hk _=>h.block k hk⟩
def au (w:World) (b:Nat) (c:Array Value) (T:TypeId):Prop:=w.heap[b]? = some (.cells c T)
def blk (w:World) (b:Nat) (c:Array Value) (T:TypeId):World:={ w with heap:=w.heap.setIfInBounds b (.cells c T) }
section
variable {w:World} {b:Nat} {c:Array Value} {T:TypeId}
@[go_sem] theorem aB:(blk w b c T).heap.size=w.heap.size:=by simp[blk]
@[go_sem] theorem aaz (i:Nat) (v:Value):(blk w b c T).setCell ⟨b,i,none⟩ v=blk w b (c.setIfInBounds i v) T:=by
 unfold blk World.setCell;congr 1;apply Array.ext_getElem?;intro k;by_cases hk:k=b
 ·subst hk;by_cases hl:k<w.heap.size
  ·rw[Array.getElem?_eq_getElem (by simp;exact hl),Array.getElem_modify_self];simp[hl]
  ·rw[Array.getElem?_eq_none (by simp;omega),Array.getElem?_eq_none (by simp;omega)]
 ·simp[Array.getElem?_modify,Array.getElem?_setIfInBounds_ne (Ne.symm hk),Ne.symm hk]
@[go_sem] theorem ZV (hb:b<w.heap.size) (i:Nat):(blk w b c T).cell? ⟨b,i,none⟩=c[i]?:=by
 simp[blk,World.cell?,hb]
@[go_sem] theorem UQ (hb:b<w.heap.size) (i:Nat):(blk w b c T).frozen? ⟨b,i,none⟩=false:=by
 simp[blk,World.frozen?,hb]
theorem QZ (hb:b<w.heap.size):(blk w b c T).heap[b]? = some (.cells c T):=by simp[blk,hb]
theorem bH {k:Nat} (h:k≠b):(blk w b c T).heap[k]? = w.heap[k]?:=by
 simp[blk,Array.getElem?_setIfInBounds_ne (Ne.symm h)]
@[go_sem] theorem sJ {k:Nat} (h:k≠b) (i:Nat):(blk w b c T).cell? ⟨k,i,none⟩=w.cell? ⟨k,i,none⟩ :=
 World.cell?_of_block (a:=⟨k,i,none⟩) (bH h)
@[go_sem] theorem NU {k:Nat} (h:k≠b) (i:Nat):(blk w b c T).frozen? ⟨k,i,none⟩=w.frozen? ⟨k,i,none⟩ :=
 World.frozen?_of_block (a:=⟨k,i,none⟩) (bH h)
@[go_sem] theorem Rk {k:Nat} (h:k≠b) (i:Nat) (v:Value):(blk w b c T).setCell ⟨k,i,none⟩ v=blk (w.setCell ⟨k,i,none⟩ v) b c T:=by
 unfold blk World.setCell;congr 1;apply Array.ext_getElem?;intro j;by_cases hj:j=b
 ·subst hj;by_cases hl:j<w.heap.size
  ·rw[Array.getElem?_eq_getElem (by simp;exact hl),Array.getElem_modify_of_ne h];simp[hl]
  ·rw[Array.getElem?_eq_none (by simp;omega),Array.getElem?_eq_none (by simp;omega)]
 ·rw[Array.getElem?_setIfInBounds_ne (Ne.symm hj),Array.getElem?_modify,Array.getElem?_modify,Array.getElem?_setIfInBounds_ne (Ne.symm hj)]
theorem au.lt (h:au w b c T):b<w.heap.size:=(Array.getElem?_eq_some_iff.1 h).1
theorem au.rules (h:au w b c T):(∀i,w.cell? ⟨b,i,none⟩=c[i]?)∧(∀i,w.frozen? ⟨b,i,none⟩=false) ∧
  (∀i v,w.setCell ⟨b,i,none⟩ v=blk w b (c.setIfInBounds i v) T)∧b<w.heap.size:=by
 refine⟨fun i=>?_,fun i=>?_,fun i v=>?_,h.lt⟩
 ·unfold au at h;simp[World.cell?,h]
 ·unfold au at h;simp[World.frozen?,h]
 ·have hl:=h.lt;unfold au at h;unfold World.setCell blk;congr 1;apply Array.ext_getElem?;intro k;by_cases hk:k=b
  ·subst hk
   have he:w.heap[k]=.cells c T:=by
    rw[Array.getElem?_eq_getElem hl]at h;exact Option.some.inj h
   rw[Array.getElem?_eq_getElem (by simp;exact hl),Array.getElem_modify_self,he];simp[hl]
  ·simp[Array.getElem?_modify,Array.getElem?_setIfInBounds_ne (Ne.symm hk),Ne.symm hk]
theorem au.new (w:World) (c:Array Value) (T:TypeId):au (w.alloc (.cells c T)) w.heap.size c T:=by
 show(w.heap.push (Obj.cells c T))[w.heap.size]? = _
 exact Array.getElem?_push_size
theorem au.alloc (h:au w b c T) (o:Obj):au (w.alloc o) b c T:=(Below.heap_alloc w o b h.lt).trans h
theorem au.fr {S:List Nat} {w':World} (h:au w b c T) (hf:Fr S w w') (hs:b∉S):au w' b c T:=(hf.block b h.lt hs).trans h
theorem au.blk (hb:b<w.heap.size):au (blk w b c T) b c T:=QZ hb
end
theorem Fr.blk {S:List Nat} {a w:World} (h:Fr S a w) {b:Nat} (hb:b∈S∨a.heap.size≤b) (c:Array Value) (T:TypeId):Fr S a (blk w b c T) :=
 ⟨h.os,h.tape,h.output,by rw[aB];exact h.size,fun k hk hs=>by
  rw[bH (by rcases hb with h1|h1;(intro e;subst e;exact hs h1);omega)]
  exact h.block k hk hs⟩
theorem Fr.grown {S:List Nat} {a w w':World} {row:Option Nat} (h:Fr S a w) (hg:w.grownBy w' row) (hr:∀k,row=some k→k∈S∨a.heap.size≤k):Fr S a w' :=
 ⟨hg.os.trans h.os,hg.tape.trans h.tape,hg.output.trans h.output,Nat.le_trans h.size hg.size,fun k hk hs=>by
  rw[hg.block k (Nat.lt_of_lt_of_le hk h.size) (fun e=>by
   rcases hr k e.symm with h1|h1
   ·exact hs h1
   ·omega)]
  exact h.block k hk hs⟩
theorem au.grown {w w':World} {b:Nat} {c:Array Value} {T:TypeId} {row:Option Nat} (h:au w b c T) (hg:w.grownBy w' row) (hr:row≠some b):au w' b c T :=
 (hg.block b h.lt (fun e=>hr e.symm)).trans h
def dJ (l:List UInt8):List Value:=l.map fun c=>.int .u8 c.toNat
theorem Jq (l:List UInt8) (c:UInt8):dJ l++[.int .u8 c.toNat]=dJ (l++[c]):=by simp[dJ]
theorem qR {P:Program} {w:World} {base:Nat} {e src dst:TypeId} {v:Value} {l:List UInt8} (hs:P.underlying src=some (.slice e)) (he:P.underlying e=some (.int .u8)) (hd:P.underlying dst=some .string)
  (h:w.ownsRow base e 1 v l.length (dJ l)):(convert src dst v).run P w=.ok (.string ⟨l.toArray⟩) w:=by
 have h0:=h;obtain⟨_,⟨rfl,h2⟩|⟨g,cap,cur,rfl,_⟩⟩:=h
 ·obtain rfl:=List.eq_nil_of_length_eq_zero h2;exact run_convert_bytes_nil w src e hs he 0 0 dst hd
 ·refine run_convert_bytes_back w src dst e ⟨g,0,none⟩ cap l hs he hd (fun j hj=>?_);exact h0.cells rfl j _ (by simp[dJ,hj])
end Ck
end
section
open Go Go.Proofs Go.RowKit Ck
namespace Go.Proofs.YtoomapkcoibmhaaGreatDoor
def eU (t:Tok):Value:=.agg #[.int .i64 t.kind,.int .i64 t.at',.string ⟨t.text.toArray⟩,.int .i64 t.int,.int .u64 t.bits]
def EK (t:Tok):Obj:=.cells #[.int .i64 t.kind,.int .i64 t.at',.string ⟨t.text.toArray⟩,.int .i64 t.int,.int .u64 t.bits] 82
theorem nM (a b:Nat):Nat.ble a b=decide (a≤b):=by
 rw[Bool.eq_iff_iff];simp
theorem lD {a b:Bool} (h:a=b):Ending.returned (.bool a)=Ending.returned (.bool b):=by rw[h]
theorem mK {k:IntKind} {a b:Int} (h:a=b):Ending.returned (.int k a)=Ending.returned (.int k b):=by rw[h]
theorem kP (c:UInt8) (w:World) :
 Calls Tryz.prog 99 #[.int .u8 c.toNat] w (fun e w'=>e=.returned (.bool (digit c))∧w=w'):=by
 go_enter Tryz.func99,Tryz.ntmps99;go_wp2
 all_goals go_ret
 all_goals (refine⟨lD ?_,rfl⟩;rw[Bool.eq_iff_iff];simp[digit,nM];try omega)
theorem nV (c:UInt8) (w:World) :
 Calls Tryz.prog 95 #[.int .u8 c.toNat] w (fun e w'=>e=.returned (.bool (lower c))∧w=w'):=by
 go_enter Tryz.func95,Tryz.ntmps95;go_wp2
 all_goals go_ret
 all_goals (refine⟨lD ?_,rfl⟩;rw[Bool.eq_iff_iff];simp[lower,nM];try omega)
theorem qQ (c:UInt8) (w:World) :
 Calls Tryz.prog 147 #[.int .u8 c.toNat] w (fun e w'=>e=.returned (.bool (lM c))∧w=w'):=by
 go_enter Tryz.func147,Tryz.ntmps147
 go_wp2_with (go_at_call 99;refine(kP c _).mono ?_;rintro e w' ⟨rfl,rfl⟩)
 all_goals go_ret
 all_goals (refine⟨lD ?_,rfl⟩;rw[Bool.eq_iff_iff];simp[lM,nM, *];try omega)
theorem DF (c:UInt8) (w:World) (h:lM c=true) :
 Calls Tryz.prog 149 #[.int .u8 c.toNat] w (fun e w'=>e=.returned (.int .u8 (tK c))∧w=w'):=by
 have hd:digit c=true→48≤c.toNat∧c.toNat≤57:=by simp[digit,nM]
 have hd':digit c=false→97≤c.toNat∧c.toNat≤102:=by intro h1;simp[lM,h1,nM]at h;exact h
 cases hh:digit c
 ·obtain⟨h1,h2⟩:=hd' hh
  clear hd hd' h;go_enter Tryz.func149,Tryz.ntmps149
  go_wp2_with (go_at_call 99;refine(kP c _).mono ?_;rintro e w' ⟨rfl,rfl⟩)
  all_goals go_ret
  all_goals (refine⟨mK ?_,rfl⟩;simp[tK,hh];omega)
 ·obtain⟨h1,h2⟩:=hd hh
  clear hd hd' h;go_enter Tryz.func149,Tryz.ntmps149
  go_wp2_with (go_at_call 99;refine(kP c _).mono ?_;rintro e w' ⟨rfl,rfl⟩)
  all_goals go_ret
  all_goals (refine⟨mK ?_,rfl⟩;simp[tK,hh];omega)
theorem wX (t:Tok) (w:World) :
 Calls Tryz.prog 37 #[eU t] w (fun e w'=>e=.returned (.bool (opens t))∧w'=w.alloc (EK t)):=by
 unfold eU EK;go_enter Tryz.func37,Tryz.ntmps37;go_wp2
 all_goals go_ret
 all_goals simp[opens, *]
theorem Jw (t:Tok) (w:World) :
 Calls Tryz.prog 38 #[eU t] w (fun e w'=>e=.returned (.bool (closes t))∧w'=w.alloc (EK t)):=by
 unfold eU EK;go_enter Tryz.func38,Tryz.ntmps38;go_wp2
 all_goals go_ret
 all_goals simp[closes, *]
def bO (w:World) (v:Value) (l:List Bytes):Prop :=
 (l=[]∧∃a c,v=.slice a 0 c) ∨
 (∃b c,v=.slice (some ⟨b,0,none⟩) l.length c∧b<w.heap.size∧∀j,j<l.length→w.cell? ⟨b,j,none⟩=some (.string ⟨(l.getD j []).toArray⟩))
theorem bO.fr {S:List Nat} {w w':World} {v:Value} {l:List Bytes} (h:bO w v l) (hf:Fr S w w') (hs:∀b n c,v=.slice (some ⟨b,0,none⟩) n c→b∉S):bO w' v l:=by
 rcases h with h|⟨b,c,rfl,hb,h⟩
 ·exact .inl h
 ·exact .inr ⟨b,c,rfl,hf.lt hb,fun j hj=>hf.cell (h j hj) (hs b _ c rfl)⟩
theorem bR {W W':World} {base:Nat} {e:TypeId} {size:Nat} {v:Value} {n:Nat} {xs:List Value} {row:Option Nat} (h:W.ownsRow base e size v n xs) (hg:W.grownBy W' row)
  (hr:∀k,row=some k→W.heap[k]?.map Obj.isCells=some false∨W.heap.size≤k):W'.ownsRow base e size v n xs:=by
 refine h.kept hg ?_;rcases h.2 with⟨rfl,_⟩|⟨g,cap,cur,rfl,_,hgb,_⟩
 ·exact .inl rfl
 ·refine .inr fun e'=>?_
  have hg':row=some g:=by simpa[Value.ownBlock]using e'.symm
  rcases hr g hg' with h1|h1
  ·rw[hgb]at h1;cases h1
  ·have:=(Array.getElem?_eq_some_iff.1 hgb).1;omega
theorem au.qm {W W':World} {b:Nat} {c:Array Value} {T:TypeId} {row:Option Nat} (h:au W b c T) (hg:W.grownBy W' row)
  (hr:∀k,row=some k→W.heap[k]?.map Obj.isCells=some false∨W.heap.size≤k):au W' b c T:=by
 refine h.grown hg (fun e'=>?_);rcases hr b e' with h1|h1
 ·rw[show W.heap[b]? = _ from h]at h1;cases h1
 ·have:=h.lt;omega
theorem wW {W:World} {b:Nat} {c:Array Value} {T:TypeId}:W.grownBy (blk W b c T) (some b) :=
 ⟨rfl,rfl,rfl,by rw[aB];exact Nat.le_refl _,fun k hk hn=>bH (fun e=>hn (by rw[e]))⟩
theorem au.aL {W:World} {b k:Nat} {c d:Array Value} {T U:TypeId} (h:au W k d U) (hn:k≠b):au (blk W b c T) k d U:=(bH hn).trans h
theorem eB {W:World} {b base:Nat} {c:Array Value} {T e:TypeId} {size n:Nat} {v:Value} {xs:List Value} (h:W.ownsRow base e size v n xs) (hb:b<base):(blk W b c T).ownsRow base e size v n xs:=by
 refine h.kept wW ?_;rcases h.2 with⟨rfl,_⟩|⟨g,cap,cur,rfl,hg,_,_⟩
 ·exact .inl rfl
 ·refine .inr fun e'=>?_
  obtain rfl:b=g:=by simpa[Value.ownBlock]using e'.symm
  omega
theorem dL {W W':World} {row:Option Nat} (h:W.drew.grownBy W' row):W.grownBy W' row:=⟨h.os,h.tape,h.output,h.size,h.block⟩
theorem tH {W:World} {base:Nat} {e:TypeId} {size n:Nat} {v:Value} {xs:List Value} (h:W.ownsRow base e size v n xs) (j:Nat) (o:Obj) (hj:v.ownBlock=some j) (ho:W.heap[j]? = some o):o.isCells=true:=by
 rcases h.2 with⟨rfl,_⟩|⟨g,cap,cur,rfl,_,hgb,_⟩
 ·cases hj
 ·obtain rfl:g=j:=by simpa[Value.ownBlock]using hj
  rw[hgb]at ho;cases ho;rfl
theorem zQ {W:World} {base base':Nat} {e e':TypeId} {size n size' n':Nat} {v v':Value} {xs xs':List Value} (h:W.ownsRow base e size v n xs) (h':W.ownsRow base' e' size' v' n' xs') (he:e≠e'):v.ownBlock=none∨v.ownBlock≠v'.ownBlock:=by
 rcases h.2 with⟨rfl,_⟩|⟨g,cap,cur,rfl,_,hgb,_⟩
 ·exact .inl rfl
 ·refine .inr fun hh=>?_
  rcases h'.2 with⟨rfl,_⟩|⟨g',cap',cur',rfl,_,hgb',_⟩
  ·cases hh
  ·obtain rfl:g=g':=by simpa[Value.ownBlock]using hh
   have:=hgb.symm.trans hgb'
   simp at this;exact he this.2
theorem aF {S:List Nat} {W X:World} {base:Nat} {e:TypeId} {size n:Nat} {v:Value} {xs:List Value} (h:W.ownsRow base e size v n xs) (hf:Fr S W X) (hS:∀x∈S,x<base):X.ownsRow base e size v n xs:=by
 refine⟨h.1,?_⟩;rcases h.2 with hn|⟨g,cap,cur,rfl,hb,hgg,rest⟩
 ·exact .inl hn
 ·refine .inr ⟨g,cap,cur,rfl,hb,?_,rest⟩;rw[hf.block g (Array.getElem?_eq_some_iff.1 hgg).1 (fun hm=>by have:=hS g hm;omega)];exact hgg
theorem Tryz.infoInt:(Tryz.prog.info? 3).map (fun i=>(i.zero,i.size,i.bytes))=some (some (.int .i64 0),1,8):=by kernel_rfl
theorem add0 (g j:Nat):(⟨g,0,none⟩:Addr).add j=⟨g,j,none⟩:=by unfold Addr.add;split<;>simp_all
theorem gZ {W:World} {base base':Nat} {e:TypeId} {size n:Nat} {v:Value} {xs:List Value} (h:W.ownsRow base e size v n xs) (hb:base'≤base):W.ownsRow base' e size v n xs:=by
 refine⟨h.1,?_⟩;rcases h.2 with hn|⟨g,cap,cur,rfl,hb',rest⟩
 ·exact .inl hn
 ·exact .inr ⟨g,cap,cur,rfl,by omega,rest⟩
def tZ (n:Ck.Node):List Value:=[.int .i64 n.kind,.int .i64 n.at',.int .i64 n.kids,.string ⟨n.text.toArray⟩,.int .i64 n.int,.int .u64 n.bits]
def kY (l:List Ck.Node):List Value:=l.flatMap tZ
theorem Tryz.infoNode:(Tryz.prog.info? 40).map (fun i=>(i.zero,i.size,i.bytes))=some (some (.agg #[.int .i64 0,.int .i64 0,.int .i64 0,.string ⟨#[]⟩,.int .i64 0,.int .u64 0]),6,56):=by kernel_rfl
theorem _root_.Ck.au.Ua {w:World} {b:Nat} {c:Array Value} {T:TypeId} (h:au w b c T) (i:Nat) (v:Value):au (w.setCell ⟨b,i,none⟩ v) b (c.setIfInBounds i v) T:=by
 rw[h.rules.2.2.1 i v];exact au.blk h.lt
theorem _root_.Ck.au.setOther {w:World} {b:Nat} {c:Array Value} {T:TypeId} (h:au w b c T) {p:Addr} (hp:b≠p.block) (v:Value):au (w.setCell p v) b c T:=(Below.heap_setCell w p v b hp).trans h
theorem _root_.Ck.au.drewN {w:World} {b:Nat} {c:Array Value} {T:TypeId} (h:au w b c T) (n:Nat):au (w.drewN n) b c T:=h
theorem _root_.Ck.au.drew {w:World} {b:Nat} {c:Array Value} {T:TypeId} (h:au w b c T):au w.drew b c T:=h
theorem str1 (w:World) (x:Bytes):bO (w.alloc (.cells #[.string ⟨x.toArray⟩] 9)) (.slice (some ⟨w.heap.size,0,none⟩) 1 1) [x]:=by
 refine .inr ⟨_,_,rfl,by simp,fun j hj=>?_⟩;obtain rfl:j=0:=by simp at hj;omega
 exact(au.new w _ _).rules.1 0
theorem Rx (w:World) (l:List Bytes):bO (w.alloc (.cells (l.map fun x=>Value.string ⟨x.toArray⟩).toArray 9)) (.slice (some ⟨w.heap.size,0,none⟩) l.length l.length) l:=by
 refine .inr ⟨_,_,rfl,by simp,fun j hj=>?_⟩;rw[(au.new w _ _).rules.1 j];simp[hj]
end Go.Proofs.YtoomapkcoibmhaaGreatDoor
end
section
namespace Go.Proofs
open Go.Shelf
def Tryz.lays156_ren:Go.Shelf.Ren:=⟨fun|156=>49|165=>79|166=>80|169=>81|240=>106|241=>107|276=>158|277=>159|n=>n,fun|31=>67|9=>9|3=>3|4=>4|0=>0|20=>20|72=>119|76=>123|70=>117|37=>42|75=>122|127=>147|164=>189|5=>5|80=>125|n=>n,fun|n=>n⟩
theorem Tryz.lays156:Go.Proofs.Lays.n156 Tryz.prog Tryz.lays156_ren:={
 mixed:=by kernel_rfl
 f156:=Tryz.func49.trans (congrArg some (by kernel_rfl))
 f165:=Tryz.func79.trans (congrArg some (by kernel_rfl))
 f166:=Tryz.func80.trans (congrArg some (by kernel_rfl))
 f169:=Tryz.func81.trans (congrArg some (by kernel_rfl))
 f240:=Tryz.func106.trans (congrArg some (by kernel_rfl))
 f241:=Tryz.func107.trans (congrArg some (by kernel_rfl))
 f276:=Tryz.func158.trans (congrArg some (by kernel_rfl))
 f277:=Tryz.func159.trans (congrArg some (by kernel_rfl))
 t0:=Tryz.underlying0
 a0:=Tryz.isAgg0
 z0:=Tryz.sizeOf0
 v0:=Tryz.zeroValue0
 t3:=Tryz.underlying3
 a3:=Tryz.isAgg3
 z3:=Tryz.sizeOf3
 v3:=Tryz.zeroValue3
 t4:=Tryz.underlying4
 a4:=Tryz.isAgg4
 z4:=Tryz.sizeOf4
 v4:=Tryz.zeroValue4
 t9:=Tryz.underlying9
 a9:=Tryz.isAgg9
 z9:=Tryz.sizeOf9
 v9:=Tryz.zeroValue9
 t20:=Tryz.underlying20
 a20:=Tryz.isAgg20
 z20:=Tryz.sizeOf20
 v20:=Tryz.zeroValue20
 t31:=Tryz.underlying67
 a31:=Tryz.isAgg67
 z31:=Tryz.sizeOf67
 v31:=Tryz.zeroValue67
 t37:=Tryz.underlying42
 a37:=Tryz.isAgg42
 z37:=Tryz.sizeOf42
 v37:=Tryz.zeroValue42
 t70:=Tryz.underlying117
 a70:=Tryz.isAgg117
 z70:=Tryz.sizeOf117
 v70:=Tryz.zeroValue117
 t72:=Tryz.underlying119
 a72:=Tryz.isAgg119
 z72:=Tryz.sizeOf119
 v72:=Tryz.zeroValue119
 t75:=Tryz.underlying122
 a75:=Tryz.isAgg122
 z75:=Tryz.sizeOf122
 v75:=Tryz.zeroValue122
 t76:=Tryz.underlying123
 a76:=Tryz.isAgg123
 z76:=Tryz.sizeOf123
 v76:=Tryz.zeroValue123
 t127:=Tryz.underlying147
 a127:=Tryz.isAgg147
 z127:=Tryz.sizeOf147
 v127:=Tryz.zeroValue147
 t164:=Tryz.underlying189
 a164:=Tryz.isAgg189
 z164:=Tryz.sizeOf189
 v164:=Tryz.zeroValue189 }
theorem Tryz.Builder_Extra_156:Builder.Extra Tryz.prog Tryz.lays156_ren:={
 sizeBuilder:=by kernel_rfl
 liesBuilder:=by kernel_rfl
 t5:=Tryz.underlying5
 a5:=Tryz.isAgg5
 z5:=Tryz.sizeOf5
 v5:=Tryz.zeroValue5
 infoByte:=by kernel_rfl
 cellsByte:=by kernel_rfl
 sizeByte:=by kernel_rfl
 neB5:=by decide }
open Go.RowKit in
theorem Tryz.strings_Join (bk o c:Nat) (xs:List ByteArray) (sep:ByteArray) (w:World) (hcells:∀(j:Nat) x,xs[j]? = some x→w.cell? ⟨bk,o+j,none⟩=some (.string x)) (hbk:bk<w.heap.size) (hN:xs.length≤140737488355328) (hcap:xs.length≤c) (hlen:(Lib.join (xs.map (·.data.toList)) sep.data.toList).length≤140737488355328) :
  Calls Tryz.prog 49 #[.slice (some ⟨bk,o,none⟩) xs.length c,.string sep] w fun e w'=>e=.returned (.string ⟨(Lib.join (xs.map (·.data.toList)) sep.data.toList).toArray⟩)∧Below w.heap.size w w':=Any.strings_Join Tryz.lays156 Tryz.Builder_Extra_156 bk o c xs sep w hcells hbk hN hcap hlen
def Tryz.lays134_ren:Go.Shelf.Ren:=⟨fun|134=>263|129=>94|n=>n,fun|53=>38|3=>3|4=>4|46=>106|5=>5|9=>9|n=>n,fun|n=>n⟩
theorem Tryz.lays134:Go.Proofs.Lays.n134 Tryz.prog Tryz.lays134_ren:={
 mixed:=by kernel_rfl
 f129:=Tryz.func94.trans (congrArg some (by kernel_rfl))
 f134:=Tryz.func263.trans (congrArg some (by kernel_rfl))
 t3:=Tryz.underlying3
 a3:=Tryz.isAgg3
 z3:=Tryz.sizeOf3
 v3:=Tryz.zeroValue3
 t4:=Tryz.underlying4
 a4:=Tryz.isAgg4
 z4:=Tryz.sizeOf4
 v4:=Tryz.zeroValue4
 t5:=Tryz.underlying5
 a5:=Tryz.isAgg5
 z5:=Tryz.sizeOf5
 v5:=Tryz.zeroValue5
 t9:=Tryz.underlying9
 a9:=Tryz.isAgg9
 z9:=Tryz.sizeOf9
 v9:=Tryz.zeroValue9
 t46:=Tryz.underlying106
 a46:=Tryz.isAgg106
 z46:=Tryz.sizeOf106
 v46:=Tryz.zeroValue106
 t53:=Tryz.underlying38
 a53:=Tryz.isAgg38
 z53:=Tryz.sizeOf38
 v53:=Tryz.zeroValue38 }
theorem Tryz.bits_LeadingZeros64 (x:Int) (w:World) (h0:0≤x) (h1:x≤18446744073709551615) :
  Calls Tryz.prog 263 #[.int .u64 x] w fun e w'=>e=.returned (.int .i64 (64-(Lib.bitLen x.toNat:Int)))∧w'=w:=Any.bits_LeadingZeros64 Tryz.lays134 x w h0 h1
def Tryz.lays103_ren:Go.Shelf.Ren:=⟨fun|103=>180|210=>212|206=>145|n=>n,fun|9=>9|4=>4|24=>219|3=>3|n=>n,fun|n=>n⟩
theorem Tryz.lays103:Go.Proofs.Lays.n103 Tryz.prog Tryz.lays103_ren:={
 mixed:=by kernel_rfl
 f103:=Tryz.func180.trans (congrArg some (by kernel_rfl))
 f206:=Tryz.func145.trans (congrArg some (by kernel_rfl))
 f210:=Tryz.func212.trans (congrArg some (by kernel_rfl))
 t3:=Tryz.underlying3
 a3:=Tryz.isAgg3
 z3:=Tryz.sizeOf3
 v3:=Tryz.zeroValue3
 t4:=Tryz.underlying4
 a4:=Tryz.isAgg4
 z4:=Tryz.sizeOf4
 v4:=Tryz.zeroValue4
 t9:=Tryz.underlying9
 a9:=Tryz.isAgg9
 z9:=Tryz.sizeOf9
 v9:=Tryz.zeroValue9
 t24:=Tryz.underlying219
 a24:=Tryz.isAgg219
 z24:=Tryz.sizeOf219
 v24:=Tryz.zeroValue219 }
open Go.RowKit in
theorem Tryz.strings_CutPrefix (s p:ByteArray) (w:World) :
  Calls Tryz.prog 180 #[.string s,.string p] w fun e w'=>e=.returned (.tuple #[.string ⟨(Lib.trimPrefix s.data.toList p.data.toList).toArray⟩,.bool (Lib.hasPrefix s.data.toList p.data.toList)])∧w'=w:=Any.strings_CutPrefix Tryz.lays103 s p w
def Tryz.lays172_ren:Go.Shelf.Ren:=⟨fun|172=>183|244=>213|245=>214|247=>216|279=>253|280=>254|281=>255|282=>256|287=>257|316=>281|171=>283|205=>282|321=>284|322=>285|243=>297|246=>288|283=>299|284=>300|285=>301|286=>302|129=>94|317=>308|318=>309|319=>310|320=>311|337=>321|338=>215|n=>n,fun|9=>9|3=>3|75=>122|76=>123|4=>4|5=>5|167=>287|37=>42|0=>0|85=>224|2=>2|168=>288|53=>38|175=>292|46=>106|210=>317|127=>147|145=>331|143=>329|21=>21|171=>332|173=>334|212=>340|51=>143|20=>20|213=>341|232=>350|233=>291|80=>125|n=>n,fun|15=>3|16=>4|17=>5|18=>6|19=>1|n=>n⟩
theorem Tryz.lays172:Go.Proofs.Lays.n172 Tryz.prog Tryz.lays172_ren:={
 mixed:=by kernel_rfl
 f129:=Tryz.func94.trans (congrArg some (by kernel_rfl))
 f171:=Tryz.func283.trans (congrArg some (by kernel_rfl))
 f172:=Tryz.func183.trans (congrArg some (by kernel_rfl))
 f205:=Tryz.func282.trans (congrArg some (by kernel_rfl))
 f243:=Tryz.func297.trans (congrArg some (by kernel_rfl))
 f244:=Tryz.func213.trans (congrArg some (by kernel_rfl))
 f245:=Tryz.func214.trans (congrArg some (by kernel_rfl))
 f246:=Tryz.func288.trans (congrArg some (by kernel_rfl))
 f247:=Tryz.func216.trans (congrArg some (by kernel_rfl))
 f279:=Tryz.func253.trans (congrArg some (by kernel_rfl))
 f280:=Tryz.func254.trans (congrArg some (by kernel_rfl))
 f281:=Tryz.func255.trans (congrArg some (by kernel_rfl))
 f282:=Tryz.func256.trans (congrArg some (by kernel_rfl))
 f283:=Tryz.func299.trans (congrArg some (by kernel_rfl))
 f284:=Tryz.func300.trans (congrArg some (by kernel_rfl))
 f285:=Tryz.func301.trans (congrArg some (by kernel_rfl))
 f286:=Tryz.func302.trans (congrArg some (by kernel_rfl))
 f287:=Tryz.func257.trans (congrArg some (by kernel_rfl))
 f316:=Tryz.func281.trans (congrArg some (by kernel_rfl))
 f317:=Tryz.func308.trans (congrArg some (by kernel_rfl))
 f318:=Tryz.func309.trans (congrArg some (by kernel_rfl))
 f319:=Tryz.func310.trans (congrArg some (by kernel_rfl))
 f320:=Tryz.func311.trans (congrArg some (by kernel_rfl))
 f321:=Tryz.func284.trans (congrArg some (by kernel_rfl))
 f322:=Tryz.func285.trans (congrArg some (by kernel_rfl))
 f337:=Tryz.func321.trans (congrArg some (by kernel_rfl))
 f338:=Tryz.func215.trans (congrArg some (by kernel_rfl))
 t0:=Tryz.underlying0
 a0:=Tryz.isAgg0
 z0:=Tryz.sizeOf0
 v0:=Tryz.zeroValue0
 t2:=Tryz.underlying2
 a2:=Tryz.isAgg2
 z2:=Tryz.sizeOf2
 v2:=Tryz.zeroValue2
 t3:=Tryz.underlying3
 a3:=Tryz.isAgg3
 z3:=Tryz.sizeOf3
 v3:=Tryz.zeroValue3
 t4:=Tryz.underlying4
 a4:=Tryz.isAgg4
 z4:=Tryz.sizeOf4
 v4:=Tryz.zeroValue4
 t5:=Tryz.underlying5
 a5:=Tryz.isAgg5
 z5:=Tryz.sizeOf5
 v5:=Tryz.zeroValue5
 t9:=Tryz.underlying9
 a9:=Tryz.isAgg9
 z9:=Tryz.sizeOf9
 v9:=Tryz.zeroValue9
 t20:=Tryz.underlying20
 a20:=Tryz.isAgg20
 z20:=Tryz.sizeOf20
 v20:=Tryz.zeroValue20
 t21:=Tryz.underlying21
 a21:=Tryz.isAgg21
 z21:=Tryz.sizeOf21
 v21:=Tryz.zeroValue21
 t37:=Tryz.underlying42
 a37:=Tryz.isAgg42
 z37:=Tryz.sizeOf42
 v37:=Tryz.zeroValue42
 t46:=Tryz.underlying106
 a46:=Tryz.isAgg106
 z46:=Tryz.sizeOf106
 v46:=Tryz.zeroValue106
 t51:=Tryz.underlying143
 a51:=Tryz.isAgg143
 z51:=Tryz.sizeOf143
 v51:=Tryz.zeroValue143
 t53:=Tryz.underlying38
 a53:=Tryz.isAgg38
 z53:=Tryz.sizeOf38
 v53:=Tryz.zeroValue38
 t75:=Tryz.underlying122
 a75:=Tryz.isAgg122
 z75:=Tryz.sizeOf122
 v75:=Tryz.zeroValue122
 t76:=Tryz.underlying123
 a76:=Tryz.isAgg123
 z76:=Tryz.sizeOf123
 v76:=Tryz.zeroValue123
 t85:=Tryz.underlying224
 a85:=Tryz.isAgg224
 z85:=Tryz.sizeOf224
 v85:=Tryz.zeroValue224
 t127:=Tryz.underlying147
 a127:=Tryz.isAgg147
 z127:=Tryz.sizeOf147
 v127:=Tryz.zeroValue147
 t143:=Tryz.underlying329
 a143:=Tryz.isAgg329
 z143:=Tryz.sizeOf329
 v143:=Tryz.zeroValue329
 t145:=Tryz.underlying331
 a145:=Tryz.isAgg331
 z145:=Tryz.sizeOf331
 v145:=Tryz.zeroValue331
 t167:=Tryz.underlying287
 a167:=Tryz.isAgg287
 z167:=Tryz.sizeOf287
 v167:=Tryz.zeroValue287
 t168:=Tryz.underlying288
 a168:=Tryz.isAgg288
 z168:=Tryz.sizeOf288
 v168:=Tryz.zeroValue288
 t171:=Tryz.underlying332
 a171:=Tryz.isAgg332
 z171:=Tryz.sizeOf332
 v171:=Tryz.zeroValue332
 t173:=Tryz.underlying334
 a173:=Tryz.isAgg334
 z173:=Tryz.sizeOf334
 v173:=Tryz.zeroValue334
 t175:=Tryz.underlying292
 a175:=Tryz.isAgg292
 z175:=Tryz.sizeOf292
 v175:=Tryz.zeroValue292
 t210:=Tryz.underlying317
 a210:=Tryz.isAgg317
 z210:=Tryz.sizeOf317
 v210:=Tryz.zeroValue317
 t212:=Tryz.underlying340
 a212:=Tryz.isAgg340
 z212:=Tryz.sizeOf340
 v212:=Tryz.zeroValue340
 t213:=Tryz.underlying341
 a213:=Tryz.isAgg341
 z213:=Tryz.sizeOf341
 t232:=Tryz.underlying350
 a232:=Tryz.isAgg350
 z232:=Tryz.sizeOf350
 v232:=Tryz.zeroValue350
 t233:=Tryz.underlying291
 a233:=Tryz.isAgg291
 z233:=Tryz.sizeOf291
 v233:=Tryz.zeroValue291
 g15:=by kernel_rfl
 g16:=by kernel_rfl
 g17:=by kernel_rfl
 g18:=by kernel_rfl
 g19:=by kernel_rfl }
open Go.RowKit in
theorem Tryz.strconv_Atoi (s:ByteArray) (n:Int) (hl:s.size≤18) (h:Lib.atoi s.data.toList=some n) (w:World) :
  Calls Tryz.prog 183 #[.string s] w fun e w'=>e=.returned (.tuple #[.int .i64 n,.nilIface])∧∃t,w'=Lib.bytesWorld w 5 t:=Any.strconv_Atoi Tryz.lays172 s n hl h w
def Tryz.lays129_ren:Go.Shelf.Ren:=⟨fun|129=>94|n=>n,fun|53=>38|3=>3|4=>4|46=>106|5=>5|9=>9|n=>n,fun|n=>n⟩
theorem Tryz.lays129:Go.Proofs.Lays.n129 Tryz.prog Tryz.lays129_ren:={
 mixed:=by kernel_rfl
 f129:=Tryz.func94.trans (congrArg some (by kernel_rfl))
 t3:=Tryz.underlying3
 a3:=Tryz.isAgg3
 z3:=Tryz.sizeOf3
 v3:=Tryz.zeroValue3
 t4:=Tryz.underlying4
 a4:=Tryz.isAgg4
 z4:=Tryz.sizeOf4
 v4:=Tryz.zeroValue4
 t5:=Tryz.underlying5
 a5:=Tryz.isAgg5
 z5:=Tryz.sizeOf5
 v5:=Tryz.zeroValue5
 t9:=Tryz.underlying9
 a9:=Tryz.isAgg9
 z9:=Tryz.sizeOf9
 v9:=Tryz.zeroValue9
 t46:=Tryz.underlying106
 a46:=Tryz.isAgg106
 z46:=Tryz.sizeOf106
 v46:=Tryz.zeroValue106
 t53:=Tryz.underlying38
 a53:=Tryz.isAgg38
 z53:=Tryz.sizeOf38
 v53:=Tryz.zeroValue38 }
theorem Tryz.bits_Len64 (x:Int) (w:World) (h0:0≤x) (h1:x≤18446744073709551615) :
  Calls Tryz.prog 94 #[.int .u64 x] w fun e w'=>e=.returned (.int .i64 (Lib.bitLen x.toNat))∧w'=w:=Any.bits_Len64 Tryz.lays129 x w h0 h1
def Tryz.laysM173_ren:Go.Shelf.Ren:=⟨fun|173=>262|246=>288|283=>299|284=>300|285=>301|286=>302|129=>94|317=>308|318=>309|319=>310|320=>311|337=>321|338=>215|n=>n,fun|2=>2|3=>3|9=>9|4=>4|171=>332|0=>0|53=>38|37=>42|5=>5|173=>334|212=>340|51=>143|20=>20|213=>341|46=>106|232=>350|233=>291|n=>n,fun|17=>5|18=>6|19=>1|n=>n⟩
theorem Tryz.laysM173:Go.Proofs.LaysM.n173 Tryz.prog Tryz.laysM173_ren:={
 mixed:=by kernel_rfl
 f129:=Tryz.func94.trans (congrArg some (by kernel_rfl))
 f173:=Tryz.func262.trans (congrArg some (by kernel_rfl))
 f246:=Tryz.func288.trans (congrArg some (by kernel_rfl))
 f283:=Tryz.func299.trans (congrArg some (by kernel_rfl))
 f284:=Tryz.func300.trans (congrArg some (by kernel_rfl))
 f285:=Tryz.func301.trans (congrArg some (by kernel_rfl))
 f286:=Tryz.func302.trans (congrArg some (by kernel_rfl))
 f317:=Tryz.func308.trans (congrArg some (by kernel_rfl))
 f318:=Tryz.func309.trans (congrArg some (by kernel_rfl))
 f319:=Tryz.func310.trans (congrArg some (by kernel_rfl))
 f320:=Tryz.func311.trans (congrArg some (by kernel_rfl))
 f337:=Tryz.func321.trans (congrArg some (by kernel_rfl))
 f338:=Tryz.func215.trans (congrArg some (by kernel_rfl))
 t0:=Tryz.underlying0
 a0:=Tryz.isAgg0
 z0:=Tryz.sizeOf0
 v0:=Tryz.zeroValue0
 t2:=Tryz.underlying2
 a2:=Tryz.isAgg2
 z2:=Tryz.sizeOf2
 v2:=Tryz.zeroValue2
 t3:=Tryz.underlying3
 a3:=Tryz.isAgg3
 z3:=Tryz.sizeOf3
 v3:=Tryz.zeroValue3
 t4:=Tryz.underlying4
 a4:=Tryz.isAgg4
 z4:=Tryz.sizeOf4
 v4:=Tryz.zeroValue4
 t5:=Tryz.underlying5
 a5:=Tryz.isAgg5
 z5:=Tryz.sizeOf5
 v5:=Tryz.zeroValue5
 t9:=Tryz.underlying9
 a9:=Tryz.isAgg9
 z9:=Tryz.sizeOf9
 v9:=Tryz.zeroValue9
 t20:=Tryz.underlying20
 a20:=Tryz.isAgg20
 z20:=Tryz.sizeOf20
 v20:=Tryz.zeroValue20
 t37:=Tryz.underlying42
 a37:=Tryz.isAgg42
 z37:=Tryz.sizeOf42
 v37:=Tryz.zeroValue42
 t46:=Tryz.underlying106
 a46:=Tryz.isAgg106
 z46:=Tryz.sizeOf106
 v46:=Tryz.zeroValue106
 t51:=Tryz.underlying143
 a51:=Tryz.isAgg143
 z51:=Tryz.sizeOf143
 v51:=Tryz.zeroValue143
 t53:=Tryz.underlying38
 a53:=Tryz.isAgg38
 z53:=Tryz.sizeOf38
 v53:=Tryz.zeroValue38
 t171:=Tryz.underlying332
 a171:=Tryz.isAgg332
 z171:=Tryz.sizeOf332
 v171:=Tryz.zeroValue332
 t173:=Tryz.underlying334
 a173:=Tryz.isAgg334
 z173:=Tryz.sizeOf334
 v173:=Tryz.zeroValue334
 t212:=Tryz.underlying340
 a212:=Tryz.isAgg340
 z212:=Tryz.sizeOf340
 v212:=Tryz.zeroValue340
 t213:=Tryz.underlying341
 a213:=Tryz.isAgg341
 z213:=Tryz.sizeOf341
 t232:=Tryz.underlying350
 a232:=Tryz.isAgg350
 z232:=Tryz.sizeOf350
 v232:=Tryz.zeroValue350
 t233:=Tryz.underlying291
 a233:=Tryz.isAgg291
 z233:=Tryz.sizeOf291
 v233:=Tryz.zeroValue291
 g17:=by kernel_rfl
 g18:=by kernel_rfl
 g19:=by kernel_rfl
 i0:=by kernel_rfl
 i2:=by kernel_rfl
 i3:=by kernel_rfl
 i4:=by kernel_rfl
 i5:=by kernel_rfl
 i9:=by kernel_rfl
 i20:=by kernel_rfl
 i37:=by kernel_rfl
 i46:=by kernel_rfl
 i51:=by kernel_rfl
 i53:=by kernel_rfl
 i171:=by kernel_rfl
 i173:=by kernel_rfl
 i212:=by kernel_rfl
 i232:=by kernel_rfl
 i233:=by kernel_rfl
 m17:=by kernel_rfl
 m18:=by kernel_rfl
 m19:=by kernel_rfl }
open Go.RowKit Go.Sort Go.Lib in
theorem Tryz.strconv_FormatInt_10 (n:Int) (h0 : -9223372036854775808≤n) (h1:n≤9223372036854775807) (w:World) (htab:Lib.TabIs Tryz.prog w "internal/strconv.uint64pow10" .u64 Lib.pow10Tab) :
  Calls Tryz.prog 262 #[.int .i64 n,.int .i64 10] w fun e w'=>e=.returned (.string ⟨(Lib.itoa n).toArray⟩)∧∃k os,w'=grow (w.drewN k) os:=Any.strconv_FormatInt_10 Tryz.laysM173 n h0 h1 w htab
def Tryz.laysC174_ren:Go.Shelf.Ren:=⟨fun|174=>185|247=>216|245=>214|287=>257|279=>253|280=>254|281=>255|282=>256|321=>284|322=>285|316=>281|171=>283|205=>282|243=>297|246=>288|283=>299|284=>300|285=>301|286=>302|129=>94|317=>308|318=>309|319=>310|320=>311|337=>321|338=>215|n=>n,fun|9=>9|3=>3|2=>2|75=>122|85=>224|4=>4|167=>287|5=>5|53=>38|175=>292|46=>106|168=>288|37=>42|0=>0|210=>317|21=>21|127=>147|145=>331|143=>329|171=>332|173=>334|212=>340|51=>143|20=>20|213=>341|232=>350|233=>291|80=>125|n=>n,fun|15=>3|16=>4|17=>5|18=>6|19=>1|n=>n⟩
theorem Tryz.laysC174:Go.Proofs.LaysC.n174 Tryz.prog Tryz.laysC174_ren:={
 mixed:=by kernel_rfl
 f129:=Tryz.func94.trans (congrArg some (by kernel_rfl))
 f171:=Tryz.func283.trans (congrArg some (by kernel_rfl))
 f174:=Tryz.func185.trans (congrArg some (by kernel_rfl))
 f205:=Tryz.func282.trans (congrArg some (by kernel_rfl))
 f243:=Tryz.func297.trans (congrArg some (by kernel_rfl))
 f245:=Tryz.func214.trans (congrArg some (by kernel_rfl))
 f246:=Tryz.func288.trans (congrArg some (by kernel_rfl))
 f247:=Tryz.func216.trans (congrArg some (by kernel_rfl))
 f279:=Tryz.func253.trans (congrArg some (by kernel_rfl))
 f280:=Tryz.func254.trans (congrArg some (by kernel_rfl))
 f281:=Tryz.func255.trans (congrArg some (by kernel_rfl))
 f282:=Tryz.func256.trans (congrArg some (by kernel_rfl))
 f283:=Tryz.func299.trans (congrArg some (by kernel_rfl))
 f284:=Tryz.func300.trans (congrArg some (by kernel_rfl))
 f285:=Tryz.func301.trans (congrArg some (by kernel_rfl))
 f286:=Tryz.func302.trans (congrArg some (by kernel_rfl))
 f287:=Tryz.func257.trans (congrArg some (by kernel_rfl))
 f316:=Tryz.func281.trans (congrArg some (by kernel_rfl))
 f317:=Tryz.func308.trans (congrArg some (by kernel_rfl))
 f318:=Tryz.func309.trans (congrArg some (by kernel_rfl))
 f319:=Tryz.func310.trans (congrArg some (by kernel_rfl))
 f320:=Tryz.func311.trans (congrArg some (by kernel_rfl))
 f321:=Tryz.func284.trans (congrArg some (by kernel_rfl))
 f322:=Tryz.func285.trans (congrArg some (by kernel_rfl))
 f337:=Tryz.func321.trans (congrArg some (by kernel_rfl))
 f338:=Tryz.func215.trans (congrArg some (by kernel_rfl))
 t0:=Tryz.underlying0
 a0:=Tryz.isAgg0
 z0:=Tryz.sizeOf0
 v0:=Tryz.zeroValue0
 t2:=Tryz.underlying2
 a2:=Tryz.isAgg2
 z2:=Tryz.sizeOf2
 v2:=Tryz.zeroValue2
 t3:=Tryz.underlying3
 a3:=Tryz.isAgg3
 z3:=Tryz.sizeOf3
 v3:=Tryz.zeroValue3
 t4:=Tryz.underlying4
 a4:=Tryz.isAgg4
 z4:=Tryz.sizeOf4
 v4:=Tryz.zeroValue4
 t5:=Tryz.underlying5
 a5:=Tryz.isAgg5
 z5:=Tryz.sizeOf5
 v5:=Tryz.zeroValue5
 t9:=Tryz.underlying9
 a9:=Tryz.isAgg9
 z9:=Tryz.sizeOf9
 v9:=Tryz.zeroValue9
 t20:=Tryz.underlying20
 a20:=Tryz.isAgg20
 z20:=Tryz.sizeOf20
 v20:=Tryz.zeroValue20
 t21:=Tryz.underlying21
 a21:=Tryz.isAgg21
 z21:=Tryz.sizeOf21
 v21:=Tryz.zeroValue21
 t37:=Tryz.underlying42
 a37:=Tryz.isAgg42
 z37:=Tryz.sizeOf42
 v37:=Tryz.zeroValue42
 t46:=Tryz.underlying106
 a46:=Tryz.isAgg106
 z46:=Tryz.sizeOf106
 v46:=Tryz.zeroValue106
 t51:=Tryz.underlying143
 a51:=Tryz.isAgg143
 z51:=Tryz.sizeOf143
 v51:=Tryz.zeroValue143
 t53:=Tryz.underlying38
 a53:=Tryz.isAgg38
 z53:=Tryz.sizeOf38
 v53:=Tryz.zeroValue38
 t75:=Tryz.underlying122
 a75:=Tryz.isAgg122
 z75:=Tryz.sizeOf122
 v75:=Tryz.zeroValue122
 t85:=Tryz.underlying224
 a85:=Tryz.isAgg224
 z85:=Tryz.sizeOf224
 v85:=Tryz.zeroValue224
 t127:=Tryz.underlying147
 a127:=Tryz.isAgg147
 z127:=Tryz.sizeOf147
 v127:=Tryz.zeroValue147
 t143:=Tryz.underlying329
 a143:=Tryz.isAgg329
 z143:=Tryz.sizeOf329
 v143:=Tryz.zeroValue329
 t145:=Tryz.underlying331
 a145:=Tryz.isAgg331
 z145:=Tryz.sizeOf331
 v145:=Tryz.zeroValue331
 t167:=Tryz.underlying287
 a167:=Tryz.isAgg287
 z167:=Tryz.sizeOf287
 v167:=Tryz.zeroValue287
 t168:=Tryz.underlying288
 a168:=Tryz.isAgg288
 z168:=Tryz.sizeOf288
 v168:=Tryz.zeroValue288
 t171:=Tryz.underlying332
 a171:=Tryz.isAgg332
 z171:=Tryz.sizeOf332
 v171:=Tryz.zeroValue332
 t173:=Tryz.underlying334
 a173:=Tryz.isAgg334
 z173:=Tryz.sizeOf334
 v173:=Tryz.zeroValue334
 t175:=Tryz.underlying292
 a175:=Tryz.isAgg292
 z175:=Tryz.sizeOf292
 v175:=Tryz.zeroValue292
 t210:=Tryz.underlying317
 a210:=Tryz.isAgg317
 z210:=Tryz.sizeOf317
 v210:=Tryz.zeroValue317
 t212:=Tryz.underlying340
 a212:=Tryz.isAgg340
 z212:=Tryz.sizeOf340
 v212:=Tryz.zeroValue340
 t213:=Tryz.underlying341
 a213:=Tryz.isAgg341
 z213:=Tryz.sizeOf341
 t232:=Tryz.underlying350
 a232:=Tryz.isAgg350
 z232:=Tryz.sizeOf350
 v232:=Tryz.zeroValue350
 t233:=Tryz.underlying291
 a233:=Tryz.isAgg291
 z233:=Tryz.sizeOf291
 v233:=Tryz.zeroValue291
 g15:=by kernel_rfl
 g16:=by kernel_rfl
 g17:=by kernel_rfl
 g18:=by kernel_rfl
 g19:=by kernel_rfl
 t80:=Tryz.underlying125
 a80:=Tryz.isAgg125
 z80:=Tryz.sizeOf125
 v80:=Tryz.zeroValue125
 i0:=by kernel_rfl
 i2:=by kernel_rfl
 i3:=by kernel_rfl
 i4:=by kernel_rfl
 i5:=by kernel_rfl
 i9:=by kernel_rfl
 i20:=by kernel_rfl
 i21:=by kernel_rfl
 i37:=by kernel_rfl
 i46:=by kernel_rfl
 i51:=by kernel_rfl
 i53:=by kernel_rfl
 i75:=by kernel_rfl
 i80:=by kernel_rfl
 i85:=by kernel_rfl
 i127:=by kernel_rfl
 i143:=by kernel_rfl
 i145:=by kernel_rfl
 i167:=by kernel_rfl
 i168:=by kernel_rfl
 i171:=by kernel_rfl
 i173:=by kernel_rfl
 i175:=by kernel_rfl
 i210:=by kernel_rfl
 i212:=by kernel_rfl
 i232:=by kernel_rfl
 i233:=by kernel_rfl
 m15:=by kernel_rfl
 m16:=by kernel_rfl
 m17:=by kernel_rfl
 m18:=by kernel_rfl
 m19:=by kernel_rfl
 c0:=by kernel_rfl
 c2:=by kernel_rfl
 c3:=by kernel_rfl
 c4:=by kernel_rfl
 c5:=by kernel_rfl
 c9:=by kernel_rfl
 c20:=by kernel_rfl
 c21:=by kernel_rfl
 c37:=by kernel_rfl
 c46:=by kernel_rfl
 c51:=by kernel_rfl
 c53:=by kernel_rfl
 c75:=by kernel_rfl
 c80:=by kernel_rfl
 c85:=by kernel_rfl
 c127:=by kernel_rfl
 c143:=by kernel_rfl
 c145:=by kernel_rfl
 c167:=by kernel_rfl
 c168:=by kernel_rfl
 c171:=by kernel_rfl
 c173:=by kernel_rfl
 c175:=by kernel_rfl
 c210:=by kernel_rfl
 c212:=by kernel_rfl
 c213:=by kernel_rfl
 c232:=by kernel_rfl
 c233:=by kernel_rfl }
open Go.RowKit in
theorem Tryz.strconv_ParseInt_10_at64_ok (s:ByteArray) (hmax:s.size≤9223372036854775806) (v:Int) (h:Lib.parseIntB 64 s.data.toList=.ok v) (w:World) :
  Calls Tryz.prog 185 #[.string s,.int .i64 10,.int .i64 64] w fun e w'=>e=.returned (.tuple #[.int .i64 v,.nilIface])∧(w'=w∨∃t,w'=Lib.bytesWorld w 5 t):=Any.strconv_ParseInt_10_at64_ok Tryz.laysC174 s hmax v h w
open Go.RowKit in
theorem Tryz.strconv_ParseInt_10_at64_range_var (s:ByteArray) (hlim:s.size≤281474976710656) (h:Lib.parseIntB 64 s.data.toList=.range) (tp:TypeId) (p:Value) (w:World) (hvar:w.var? Tryz.prog "strconv.ErrRange" = some #[.iface tp p]) :
  Calls Tryz.prog 185 #[.string s,.int .i64 10,.int .i64 64] w fun e w'=>∃N,e=.returned (.tuple #[.int .i64 (Lib.intSat 64 s.data.toList),.iface 288 (.pointer (some ⟨N,0,none⟩))])∧w.heap.size≤N∧w'.heap[N]? = some (.cells #[.string ⟨#[80,97,114,115,101,73,110,116]⟩,.string s,.iface tp p] 317 (0,0))∧Below w.heap.size w w':=Any.strconv_ParseInt_10_at64_range_var Tryz.laysC174 s hlim h tp p w hvar
def Tryz.lays189_ren:Go.Shelf.Ren:=⟨fun|189=>34|125=>67|257=>66|128=>93|129=>94|294=>84|295=>85|296=>86|297=>87|298=>88|299=>89|216=>90|300=>91|301=>92|328=>136|329=>137|330=>138|331=>139|332=>140|215=>141|343=>179|n=>n,fun|28=>36|3=>3|46=>106|0=>0|51=>143|53=>38|4=>4|183=>137|182=>136|131=>71|5=>5|9=>9|218=>175|222=>178|228=>216|229=>217|n=>n,fun|n=>n⟩
theorem Tryz.lays189:Go.Proofs.Lays.n189 Tryz.prog Tryz.lays189_ren:={
 mixed:=by kernel_rfl
 f125:=Tryz.func67.trans (congrArg some (by kernel_rfl))
 f128:=Tryz.func93.trans (congrArg some (by kernel_rfl))
 f129:=Tryz.func94.trans (congrArg some (by kernel_rfl))
 f189:=Tryz.func34.trans (congrArg some (by kernel_rfl))
 f215:=Tryz.func141.trans (congrArg some (by kernel_rfl))
 f216:=Tryz.func90.trans (congrArg some (by kernel_rfl))
 f257:=Tryz.func66.trans (congrArg some (by kernel_rfl))
 f294:=Tryz.func84.trans (congrArg some (by kernel_rfl))
 f295:=Tryz.func85.trans (congrArg some (by kernel_rfl))
 f296:=Tryz.func86.trans (congrArg some (by kernel_rfl))
 f297:=Tryz.func87.trans (congrArg some (by kernel_rfl))
 f298:=Tryz.func88.trans (congrArg some (by kernel_rfl))
 f299:=Tryz.func89.trans (congrArg some (by kernel_rfl))
 f300:=Tryz.func91.trans (congrArg some (by kernel_rfl))
 f301:=Tryz.func92.trans (congrArg some (by kernel_rfl))
 f328:=Tryz.func136.trans (congrArg some (by kernel_rfl))
 f329:=Tryz.func137.trans (congrArg some (by kernel_rfl))
 f330:=Tryz.func138.trans (congrArg some (by kernel_rfl))
 f331:=Tryz.func139.trans (congrArg some (by kernel_rfl))
 f332:=Tryz.func140.trans (congrArg some (by kernel_rfl))
 f343:=Tryz.func179.trans (congrArg some (by kernel_rfl))
 t0:=Tryz.underlying0
 a0:=Tryz.isAgg0
 z0:=Tryz.sizeOf0
 v0:=Tryz.zeroValue0
 t3:=Tryz.underlying3
 a3:=Tryz.isAgg3
 z3:=Tryz.sizeOf3
 v3:=Tryz.zeroValue3
 t4:=Tryz.underlying4
 a4:=Tryz.isAgg4
 z4:=Tryz.sizeOf4
 v4:=Tryz.zeroValue4
 t5:=Tryz.underlying5
 a5:=Tryz.isAgg5
 z5:=Tryz.sizeOf5
 v5:=Tryz.zeroValue5
 t9:=Tryz.underlying9
 a9:=Tryz.isAgg9
 z9:=Tryz.sizeOf9
 v9:=Tryz.zeroValue9
 t28:=Tryz.underlying36
 a28:=Tryz.isAgg36
 z28:=Tryz.sizeOf36
 v28:=Tryz.zeroValue36
 t46:=Tryz.underlying106
 a46:=Tryz.isAgg106
 z46:=Tryz.sizeOf106
 v46:=Tryz.zeroValue106
 t51:=Tryz.underlying143
 a51:=Tryz.isAgg143
 z51:=Tryz.sizeOf143
 v51:=Tryz.zeroValue143
 t53:=Tryz.underlying38
 a53:=Tryz.isAgg38
 z53:=Tryz.sizeOf38
 v53:=Tryz.zeroValue38
 t131:=Tryz.underlying71
 a131:=Tryz.isAgg71
 z131:=Tryz.sizeOf71
 v131:=Tryz.zeroValue71
 t182:=Tryz.underlying136
 a182:=Tryz.isAgg136
 z182:=Tryz.sizeOf136
 v182:=Tryz.zeroValue136
 t183:=Tryz.underlying137
 a183:=Tryz.isAgg137
 z183:=Tryz.sizeOf137
 v183:=Tryz.zeroValue137
 t218:=Tryz.underlying175
 a218:=Tryz.isAgg175
 z218:=Tryz.sizeOf175
 v218:=Tryz.zeroValue175
 t222:=Tryz.underlying178
 a222:=Tryz.isAgg178
 z222:=Tryz.sizeOf178
 v222:=Tryz.zeroValue178
 t228:=Tryz.underlying216
 a228:=Tryz.isAgg216
 z228:=Tryz.sizeOf216
 v228:=Tryz.zeroValue216
 t229:=Tryz.underlying217
 a229:=Tryz.isAgg217
 z229:=Tryz.sizeOf217
 v229:=Tryz.zeroValue217 }
open Go.Sort Go.RowKit in
theorem Tryz.slices_Sort_int (blk off cap:Nat) (zs:List Int) (w:World) (hH:Holds (Value.int .i64) w blk off zs.toArray) (hblk:blk<w.heap.size) (hsz:zs.length<4611686018427387904) :
  Calls Tryz.prog 34 #[.slice (some ⟨blk,off,none⟩) zs.length cap] w fun e w' =>
   e=.returned (.tuple #[])∧∃n os,w'=grow (putRow (Value.int .i64) (Sort.ahead w n) blk off (zs.mergeSort fun x y=>decide (x≤y)).toArray) os:=Any.slices_Sort_int Tryz.lays189 blk off cap zs w hH hblk hsz
def Tryz.lays99_ren:Go.Shelf.Ren:=⟨fun|99=>97|206=>145|n=>n,fun|9=>9|4=>4|3=>3|n=>n,fun|n=>n⟩
theorem Tryz.lays99:Go.Proofs.Lays.n99 Tryz.prog Tryz.lays99_ren:={
 mixed:=by kernel_rfl
 f99:=Tryz.func97.trans (congrArg some (by kernel_rfl))
 f206:=Tryz.func145.trans (congrArg some (by kernel_rfl))
 t3:=Tryz.underlying3
 a3:=Tryz.isAgg3
 z3:=Tryz.sizeOf3
 v3:=Tryz.zeroValue3
 t4:=Tryz.underlying4
 a4:=Tryz.isAgg4
 z4:=Tryz.sizeOf4
 v4:=Tryz.zeroValue4
 t9:=Tryz.underlying9
 a9:=Tryz.isAgg9
 z9:=Tryz.sizeOf9
 v9:=Tryz.zeroValue9 }
open Go.RowKit Go.Lib in
theorem Tryz.strings_HasPrefix (s p:ByteArray) (w:World) :
  Calls Tryz.prog 97 #[.string s,.string p] w fun e w'=>e=.returned (.bool (Lib.hasPrefix s.data.toList p.data.toList))∧w'=w:=Any.strings_HasPrefix Tryz.lays99 s p w
def Tryz.lays101_ren:Go.Shelf.Ren:=⟨fun|101=>163|208=>196|206=>145|n=>n,fun|9=>9|4=>4|3=>3|n=>n,fun|n=>n⟩
theorem Tryz.lays101:Go.Proofs.Lays.n101 Tryz.prog Tryz.lays101_ren:={
 mixed:=by kernel_rfl
 f101:=Tryz.func163.trans (congrArg some (by kernel_rfl))
 f206:=Tryz.func145.trans (congrArg some (by kernel_rfl))
 f208:=Tryz.func196.trans (congrArg some (by kernel_rfl))
 t3:=Tryz.underlying3
 a3:=Tryz.isAgg3
 z3:=Tryz.sizeOf3
 v3:=Tryz.zeroValue3
 t4:=Tryz.underlying4
 a4:=Tryz.isAgg4
 z4:=Tryz.sizeOf4
 v4:=Tryz.zeroValue4
 t9:=Tryz.underlying9
 a9:=Tryz.isAgg9
 z9:=Tryz.sizeOf9
 v9:=Tryz.zeroValue9 }
open Go.RowKit Go.Lib in
theorem Tryz.strings_TrimPrefix (s p:ByteArray) (w:World) :
  Calls Tryz.prog 163 #[.string s,.string p] w fun e w'=>e=.returned (.string ⟨(Lib.trimPrefix s.data.toList p.data.toList).toArray⟩)∧w'=w:=Any.strings_TrimPrefix Tryz.lays101 s p w
def Tryz.lays110_ren:Go.Shelf.Ren:=⟨fun|110=>61|109=>83|n=>n,fun|31=>67|9=>9|4=>4|3=>3|0=>0|n=>n,fun|n=>n⟩
theorem Tryz.lays110:Go.Proofs.Lays.n110 Tryz.prog Tryz.lays110_ren:={
 mixed:=by kernel_rfl
 f109:=Tryz.func83.trans (congrArg some (by kernel_rfl))
 f110:=Tryz.func61.trans (congrArg some (by kernel_rfl))
 t0:=Tryz.underlying0
 a0:=Tryz.isAgg0
 z0:=Tryz.sizeOf0
 v0:=Tryz.zeroValue0
 t3:=Tryz.underlying3
 a3:=Tryz.isAgg3
 z3:=Tryz.sizeOf3
 v3:=Tryz.zeroValue3
 t4:=Tryz.underlying4
 a4:=Tryz.isAgg4
 z4:=Tryz.sizeOf4
 v4:=Tryz.zeroValue4
 t9:=Tryz.underlying9
 a9:=Tryz.isAgg9
 z9:=Tryz.sizeOf9
 v9:=Tryz.zeroValue9
 t31:=Tryz.underlying67
 a31:=Tryz.isAgg67
 z31:=Tryz.sizeOf67
 v31:=Tryz.zeroValue67 }
open Go.Lib in
theorem Tryz.slices_Contains_string (b off n c:Nat) (zs:List ByteArray) (x:ByteArray) (w:World) (hz:n≤zs.length) (hbig:n≤9223372036854775807) (hc:∀j,j<zs.length→w.cell? ⟨b,off+j,none⟩=some (.string (zs.getD j ByteArray.empty))) :
  Calls Tryz.prog 61 #[.slice (some ⟨b,off,none⟩) n c,.string x] w fun e w'=>e=.returned (.bool (Lib.containsS (zs.take n) x))∧w'=w:=Any.slices_Contains_string Tryz.lays110 b off n c zs x w hz hbig hc
open Go.Lib in
theorem Tryz.slices_Contains_string_empty (a:Option Addr) (c:Nat) (x:ByteArray) (w:World) :
  Calls Tryz.prog 61 #[.slice a 0 c,.string x] w fun e w'=>e=.returned (.bool false)∧w'=w:=Any.slices_Contains_string_empty Tryz.lays110 a c x w
def Tryz.lays7n29_ren:Go.Shelf.Ren:=⟨fun|29=>215|n=>n,fun|22=>38|3=>3|4=>4|25=>106|54=>291|0=>0|5=>5|n=>n,fun|1=>1|n=>n⟩
theorem Tryz.lays7n29:Go.Proofs.Lays7.n29 Tryz.prog Tryz.lays7n29_ren:={
 mixed:=by kernel_rfl
 f29:=Tryz.func215.trans (congrArg some (by kernel_rfl))
 t0:=Tryz.underlying0
 a0:=Tryz.isAgg0
 z0:=Tryz.sizeOf0
 v0:=Tryz.zeroValue0
 i0:=by kernel_rfl
 t3:=Tryz.underlying3
 a3:=Tryz.isAgg3
 z3:=Tryz.sizeOf3
 v3:=Tryz.zeroValue3
 i3:=by kernel_rfl
 t4:=Tryz.underlying4
 a4:=Tryz.isAgg4
 z4:=Tryz.sizeOf4
 v4:=Tryz.zeroValue4
 i4:=by kernel_rfl
 t5:=Tryz.underlying5
 a5:=Tryz.isAgg5
 z5:=Tryz.sizeOf5
 v5:=Tryz.zeroValue5
 i5:=by kernel_rfl
 t22:=Tryz.underlying38
 a22:=Tryz.isAgg38
 z22:=Tryz.sizeOf38
 v22:=Tryz.zeroValue38
 i22:=by kernel_rfl
 t25:=Tryz.underlying106
 a25:=Tryz.isAgg106
 z25:=Tryz.sizeOf106
 v25:=Tryz.zeroValue106
 i25:=by kernel_rfl
 t54:=Tryz.underlying291
 a54:=Tryz.isAgg291
 z54:=Tryz.sizeOf291
 g1:=by kernel_rfl }
theorem Tryz.bits_TrailingZeros64 (x:Nat) (hx:x<18446744073709551616) (w:World) (hT:x≠0→TabAt 1 Lib.deBruijn64tab w) :
  Calls Tryz.prog 215 #[.int .u64 x] w fun e w'=>e=.returned (.int .i64 (Lib.ctz 64 x))∧w'=w:=Any7.bits_TrailingZeros64 Tryz.lays7n29 x hx w hT
end Go.Proofs
end
section
open Go Go.Proofs Go.RowKit Ck
namespace Go.Proofs.YtoomapkcoibmhaaGreatDoor
theorem F8 (l:List Bytes) (x:Bytes):Lib.containsS (l.map fun s=>(⟨s.toArray⟩:ByteArray)) ⟨x.toArray⟩=l.contains x:=by
 rw[Bool.eq_iff_iff,Lib.containsS_iff];simp[List.mem_map]
theorem fJ (w:World) (v:Value) (l:List Bytes) (x:Bytes) (h:bO w v l) (hl:l.length≤9223372036854775807) :
  Calls Tryz.prog 61 #[v,.string ⟨x.toArray⟩] w (fun e w'=>e=.returned (.bool (l.contains x))∧w=w'):=by
 rcases h with⟨rfl,a,c,rfl⟩|⟨b,c,rfl,hb,h⟩
 ·exact(Tryz.slices_Contains_string_empty a c ⟨x.toArray⟩ w).mono (fun e w' ⟨h1,h2⟩=>⟨by simpa using h1,h2.symm⟩)
 ·have hc:=Tryz.slices_Contains_string b 0 l.length c (l.map fun s=>(⟨s.toArray⟩:ByteArray)) ⟨x.toArray⟩ w (by simp) hl (by
   intro j hj;have hj':j<l.length:=by simpa using hj
   have:=h j hj'
   simp only[Nat.zero_add];rw[this]
   simp[List.getD,hj'])
  refine hc.mono (fun e w' ⟨h1,h2⟩=>⟨?_,h2.symm⟩);rw[h1,List.take_of_length_le (by simp),F8]
theorem rG (s p:Bytes):Lib.hasPrefix s p=p.isPrefixOf s:=rfl
theorem ji (s p:Bytes) (w:World) :
  Calls Tryz.prog 97 #[.string ⟨s.toArray⟩,.string ⟨p.toArray⟩] w (fun e w'=>e=.returned (.bool (p.isPrefixOf s))∧w=w') :=
 (Tryz.strings_HasPrefix ⟨s.toArray⟩ ⟨p.toArray⟩ w).mono (fun e w' ⟨h1,h2⟩=>⟨by simpa[rG]using h1,h2.symm⟩)
theorem Cg (s p:Bytes) (w:World) :
  Calls Tryz.prog 163 #[.string ⟨s.toArray⟩,.string ⟨p.toArray⟩] w (fun e w'=>e=.returned (.string ⟨(if p.isPrefixOf s then s.drop p.length else s).toArray⟩)∧w=w') :=
 (Tryz.strings_TrimPrefix ⟨s.toArray⟩ ⟨p.toArray⟩ w).mono (fun e w' ⟨h1,h2⟩=>⟨by simpa[rG,Lib.trimPrefix]using h1,h2.symm⟩)
theorem kr (s p:Bytes) (w:World) :
  Calls Tryz.prog 180 #[.string ⟨s.toArray⟩,.string ⟨p.toArray⟩] w (fun e w'=>e=.returned (.tuple #[.string ⟨(if p.isPrefixOf s then s.drop p.length else s).toArray⟩,.bool (p.isPrefixOf s)])∧w=w') :=
 (Tryz.strings_CutPrefix ⟨s.toArray⟩ ⟨p.toArray⟩ w).mono (fun e w' ⟨h1,h2⟩=>⟨by simpa[rG,Lib.trimPrefix]using h1,h2.symm⟩)
end Go.Proofs.YtoomapkcoibmhaaGreatDoor
end
