/- A part of the proof. -/
import Derived.Maps.OwnIn
import Derived.StringKeys
import Derived.Laws.EntriesVeiled
import Derived.Test.YtoomapkcoibmhaaGreatDoorQ27
set_option maxRecDepth 100000
set_option maxHeartbeats 12800000
set_option linter.all false
section
open Go Go.Proofs Go.RowKit Go.Shelf Go.Maps Ck
namespace Go.Proofs.YtoomapkcoibmhaaGreatDoor
attribute [local go_sem] Oper.semAt_some
theorem l6:Keyed Tryz.prog 9:=string_keyed Tryz.underlying9
theorem uj {x:Bytes} (h:x.length≤maxLen):keyOf Tryz.prog 9 (.string ⟨x.toArray⟩)=some (.string x) :=
 Go.WideMaps.keyOf_string_mk Tryz.underlying9 (s:=⟨x.toArray⟩) (by simpa[ByteArray.size]using h)
theorem Ws (w:World):(zeroValue 70).run Tryz.prog w=.ok (.agg #[]) w:=by kernel_rfl
def eP (w:World) (m:Nat) (l:List Bytes):Prop :=
 ∃n D,w.ownsMap (H:=Unit) Tryz.prog 9 unitElem m n D∧n≤l.length∧∀x:Bytes,Maps.has D (.string x)=l.contains x
def MapAt (w:World) (m:Nat) (l:List (Bytes × Int)):Prop :=
 ∃n D,w.ownsMap (H:=Unit) Tryz.prog 9 (plainElem Tryz.prog 3) m n D∧n≤l.length ∧
  ∀x:Bytes,Maps.has D (.string x)=(lookup l x).isSome∧D.atKey (.string x) (.lit (.int .i64 0))=.lit (.int .i64 ((lookup l x).getD 0))
theorem eP.lt {w:World} {m:Nat} {l:List Bytes} (h:eP w m l):m<w.heap.size:=by obtain⟨n,D,h,_⟩:=h;exact h.lt
theorem MapAt.lt {w:World} {m:Nat} {l:List (Bytes × Int)} (h:MapAt w m l):m<w.heap.size:=by obtain⟨n,D,h,_⟩:=h;exact h.lt
theorem fI {H:Type} {w w':World} {P:Program} {k:TypeId} {R:Value→Option (DataW H × List MemPlace)} {b n:Nat} {D:DataW H} (h:w.ownsMap P k R b n D) (hb:w'.heap[b]? = w.heap[b]?):w'.ownsMap P k R b n D:=by
 obtain⟨es,clock,h1,h2⟩:=h
 exact⟨es,clock,hb.trans h1,h2⟩
theorem eP.eq {w w':World} {m:Nat} {l:List Bytes} (h:eP w m l) (hb:w'.heap[m]? = w.heap[m]?):eP w' m l:=by
 obtain⟨n,D,h1,h2⟩:=h;exact⟨n,D,fI h1 hb,h2⟩
theorem MapAt.eq {w w':World} {m:Nat} {l:List (Bytes × Int)} (h:MapAt w m l) (hb:w'.heap[m]? = w.heap[m]?):MapAt w' m l:=by
 obtain⟨n,D,h1,h2⟩:=h;exact⟨n,D,fI h1 hb,h2⟩
theorem eP.fr {w w':World} {m:Nat} {l:List Bytes} (h:eP w m l) (hf:Fr [] w w'):eP w' m l:=h.eq (hf.block m h.lt (by simp))
theorem MapAt.fr {w w':World} {m:Nat} {l:List (Bytes × Int)} (h:MapAt w m l) (hf:Fr [] w w'):MapAt w' m l:=h.eq (hf.block m h.lt (by simp))
theorem eP.apart {w:World} {m b:Nat} {l:List Bytes} {c:Array Value} {T:TypeId} (h:eP w m l) (hb:au w b c T):m≠b:=by
 rintro rfl;obtain⟨n,D,⟨es,cl,h1,_⟩,_⟩:=h
 have:=h1.symm.trans hb;cases this
theorem MapAt.apart {w:World} {m b:Nat} {l:List (Bytes × Int)} {c:Array Value} {T:TypeId} (h:MapAt w m l) (hb:au w b c T):m≠b:=by
 rintro rfl;obtain⟨n,D,⟨es,cl,h1,_⟩,_⟩:=h
 have:=h1.symm.trans hb;cases this
theorem AZ (x:Bytes) (h:x.length≤maxLen):WideAt.IsKeyLit (.string x):=by
 first|trivial|simp[WideAt.IsKeyLit]
theorem FB {D:DataW Unit} {l:List Bytes} {x:Bytes} (hD:Maps.IsMap D) (hx:x.length≤maxLen) (h:∀y:Bytes,Maps.has D (.string y)=l.contains y) (d:DataW Unit):∀y:Bytes,Maps.has (D.put (.string x) d) (.string y)=(x::l).contains y:=by
 intro y;by_cases hy:y=x
 ·subst hy;rw[Maps.has_put_same hD (AZ y hx)];simp
 ·rw[Maps.has_put_other (by intro e;injection e with e;exact hy e),h];simp[List.contains_cons,hy]
def o8 (m:Nat):Value:=.map (some m)
def Sets (w:World):List Nat→List (List Bytes)→Prop
 | [],[]=>True
 | m::ms,l::ls=>eP w m l∧Sets w ms ls
 | _,_=>False
theorem Sets.length {w:World}:∀{ms:List Nat} {ls:List (List Bytes)},Sets w ms ls→ms.length=ls.length
 | [],[],_=>rfl
 | _::_,_::_,h=>by simp[Sets.length h.2]
 | [],_::_,h=>h.elim
 | _::_,[],h=>h.elim
theorem Sets.eq {w w':World}:∀{ms:List Nat} {ls:List (List Bytes)},Sets w ms ls→(∀m∈ms,m<w.heap.size→w'.heap[m]? = w.heap[m]?)→Sets w' ms ls
 | [],[],_,_=>trivial
 | m::_,_::_,h,hb=>⟨h.1.eq (hb m (by simp) h.1.lt),Sets.eq h.2 (fun k hk=>hb k (by simp[hk]))⟩
 | [],_::_,h,_=>h.elim
 | _::_,[],h,_=>h.elim
theorem ownsRow_le {W:World} {base:Nat} {e:TypeId} {size n:Nat} {v:Value} {xs:List Value} (h:W.ownsRow base e size v n xs):n≤maxLen:=by
 rcases h.2 with⟨_,rfl⟩|⟨g,cap,cur,_,_,_,h1,h2,_⟩
 ·omega
 ·omega
structure lH where
 R:List Ck.Node
 E:Env
 bp:Nat
 g:Nat
 c:Nat
 mg:Nat
 mp:Nat
 ma:Nat
 base:Nat
 w0:World
structure CK (S:lH) (s:CS) (ms:List Nat) (w:World):Prop where
 ex:∃sv lv,au w S.bp #[.slice (some ⟨S.g,0,none⟩) S.R.length S.c,.bool S.E.free,.map (some S.mg),.map (some S.mp),.map (some S.ma),sv,lv] 69 ∧
  w.ownsRow S.base 64 1 sv s.scopes.length (ms.reverse.map o8)∧w.ownsRow S.base 9 1 lv s.loops.length (cK s.loops.reverse)
 sets:Sets w ms s.scopes
 nodup:(S.mg::S.mp::S.ma::ms).Nodup
 yL:∀m∈ms,S.base≤m
 Je:eP w S.mg S.E.globals
 par:MapAt w S.mp S.E.params
 Ea:eP w S.ma s.ahead
 row:J4 S.R S.g S.w0
 gb:S.g<S.base
 low:Below S.base S.w0 w
 bases:S.base≤S.bp∧S.base≤S.ma
 bsz:S.base=S.w0.heap.size
 vars:Vars w
 glob:Tryz.prog.globals.size≤S.base
 lim:S.R.length≤1099511627776
 ok:∀n∈S.R,uQ n
structure Ct (w w':World):Prop where
 size:w.heap.size≤w'.heap.size
 kept:∀b c T,T≠69→T≠64→T≠9→au w b c T→au w' b c T
theorem Ct.refl (w:World):Ct w w:=⟨Nat.le_refl _,fun _ _ _ _ _ _ h=>h⟩
theorem Ct.trans {a b c:World} (h:Ct a b) (k:Ct b c):Ct a c:=⟨Nat.le_trans h.size k.size,fun x y T h1 h2 h3 hb=>k.kept x y T h1 h2 h3 (h.kept x y T h1 h2 h3 hb)⟩
theorem Ct.aC {w w':World} (h:Fr [] w w'):Ct w w':=⟨h.size,fun _ _ _ _ _ _ hb=>hb.fr h (by simp)⟩
theorem eH {W X:World} {base:Nat} {e:TypeId} {size n:Nat} {v:Value} {xs:List Value} (h:W.ownsRow base e size v n xs) (hf:Fr [] W X):X.ownsRow base e size v n xs:=aF h hf (by simp)
theorem CK.fr {S:lH} {s:CS} {ms:List Nat} {w w':World} (h:CK S s ms w) (hf:Fr [] w w'):CK S s ms w':=by
 obtain⟨sv,lv,h1,h2,h3⟩:=h.ex
 have hbw:S.base≤w.heap.size:=by have:=h1.lt;have:=h.bases;omega
 exact⟨⟨sv,lv,h1.fr hf (by simp),eH h2 hf,eH h3 hf⟩,h.sets.eq (fun m _ hl=>hf.block m hl (by simp)),h.nodup,h.yL,h.Je.fr hf,h.par.fr hf,h.Ea.fr hf,h.row,h.gb,
  h.low.trans (Below.aC hf hbw),h.bases,h.bsz,h.vars.fr hf (by simp),h.glob,h.lim,h.ok⟩
theorem CK.rat {S:lH} {s:CS} {ms:List Nat} {w:World} (h:CK S s ms w):J4 S.R S.g w :=
 ⟨Nat.lt_of_lt_of_le h.row.gl h.low.size,fun i n hi k hk=>(h.low.cell (p:=⟨S.g,i*6+k,none⟩) h.gb).trans (h.row.cells i n hi k hk)⟩
theorem qZ (m:Nat) (l:List Bytes) (x:Bytes) (hx:x.length≤maxLen) (w:World) (h:eP w m l) :
  Calls Tryz.prog 55 #[.map (some m),.string ⟨x.toArray⟩] w fun e w'=>e=.returned (.bool (l.contains x))∧Fr [] w w':=by
 obtain⟨n,D,h1,h2,h3⟩:=h
 have hkey:=uj hx;go_enter Tryz.func55,Tryz.ntmps55
 go_wp2_with (first|(at_lookup;refine wpList_lookup_own_unit _ rfl _ _ 64 rfl 9 70 l6 Tryz.underlying64 (Ws _) m n D rfl h1 _ _ rfl hkey ?_)|go_in)
 go_ret;exact⟨by simp,(Fr.refl _ _).alloc _⟩
section
variable {S:lH} {s:CS} {ms:List Nat} {w:World}
theorem zu {m:Nat} (h:CK S s (m::ms) w):Calls Tryz.prog 59 #[.pointer (some ⟨S.bp,0,none⟩)] w fun e w'=>e=.returned (.map (some m))∧Fr [] w w':=by
 obtain⟨sv,lv,h1,h2,h3⟩:=h.ex
 have h4:=h.sets;obtain⟨kc,kz,aH,kb⟩:=h1.rules
 have hl:=h4.length;have hq:∃n,s.scopes.length=n+1:=⟨ms.length,by rw[←hl];rfl⟩
 obtain⟨n,hn⟩:=hq
 rw[hn]at h2
 obtain⟨g',cap',hsv⟩:=ownsRow_succ h2
 subst hsv
 have hc:w.cell? ⟨g',n,none⟩=some (.map (some m)):=by
  rw[h2.cellAt n (by omega)]
  have:ms.length=n:=by simp at hl;omega
  simp[←this,o8]
 have hm:(n:Int)≤9223372036854775806:=by have:=ownsRow_le h2;unfold maxLen at this;omega
 clear h2 h4 h hl hn;go_enter Tryz.func59,Tryz.ntmps59
 go_wp2_with (go_quiet (fail))
 go_ret;exact⟨rfl,(Fr.refl _ _).drewN _⟩
theorem CK.A8 {m:Nat} (h:CK S s (m::ms) w):eP w m s.top:=by
 have h4:=h.sets;unfold CS.top;cases hs:s.scopes with
 | nil=>rw[hs]at h4;exact h4.elim
 | cons l ls=>rw[hs]at h4;exact h4.1
theorem Sets.at {w:World}:∀{ms:List Nat} {ls:List (List Bytes)},Sets w ms ls→∀(j m:Nat),ms[j]? = some m→∃l,ls[j]? = some l∧eP w m l
 | [],[],_,j,m,h=>by cases h
 | a::_,l::_,h,0,m,hm=>⟨l,rfl,(show a=m by simpa using hm) ▸ h.1⟩
 | _::_,_::_,h,j+1,m,hm=>by obtain⟨l,h1,h2⟩:=Sets.at h.2 j m (by simpa using hm);exact⟨l,by simpa using h1,h2⟩
 | [],_::_,h,_,_,_=>h.elim
 | _::_,[],h,_,_,_=>h.elim
theorem FC {α:Type} (f:α→Bool) (l:List α) (x:α) (q:Nat) (h:l.reverse[q]? = some x):(l.reverse.take (q+1)).any f=((l.reverse.take q).any f||f x):=by
 have hq:=(List.getElem?_eq_some_iff.1 h)
 obtain⟨hl,hx⟩:=hq
 rw[List.take_succ_eq_append_getElem hl,List.any_append,hx];simp
theorem Nb {E:Env} {s:CS} {x:Bytes} {g0:Bool} (hg:E.globals.contains x=g0):Ck.known E s x=(g0||(s.scopes.reverse.take s.scopes.length).any (·.contains x)):=by
 unfold Ck.known;rw[hg,List.take_of_length_le (by simp),List.any_reverse]
theorem A9 {E:Env} {s:CS} {x:Bytes} {g0:Bool} (hg:E.globals.contains x=g0) {q:Nat} (h:true=(g0||(s.scopes.reverse.take q).any (·.contains x))):Ck.known E s x=true:=by
 unfold Ck.known;rw[hg];cases g0 with
 | true=>rfl
 | false =>
  simp only[Bool.false_or]at h ⊢;rw[←List.any_reverse];have h:=h.symm;rw[List.any_eq_true]at h ⊢
  obtain⟨y,h1,h2⟩:=h
  exact⟨y,List.mem_of_mem_take h1,h2⟩
theorem Eb (h:CK S s ms w) (x:Bytes) (hx:x.length≤maxLen):Calls Tryz.prog 63 #[.pointer (some ⟨S.bp,0,none⟩),.string ⟨x.toArray⟩] w fun e w'=>e=.returned (.bool (Ck.known S.E s x))∧Fr [] w w':=by
 obtain⟨sv,lv,h1,h2,h3⟩:=h.ex
 have h4:=h.sets;obtain⟨kc,kz,aH,kb⟩:=h1.rules
 have hl:=h4.length;have hlen:((s.scopes.length:Nat):Int)≤9223372036854775807:=by have:=ownsRow_le h2;unfold maxLen at this;omega
 have RV:=h.Je;have HX:=Lib.hid hx
 have hsv:∃a c,sv=.slice a s.scopes.length c:=by
  rcases h2.2 with⟨rfl,h0⟩|⟨g',cap,cur,rfl,_⟩
  ·exact⟨none,0,by rw[h0]⟩
  ·exact⟨_,_,rfl⟩
 obtain⟨sa,Kk,rfl⟩:=hsv
 have H2:=Lib.hid h2;have H4:=Lib.hid h4;have HB:=Lib.hid h1;clear h1 h2 h3 h4 h;obtain⟨g0,hg0⟩:∃g0:Bool,S.E.globals.contains x=g0:=⟨_,rfl⟩
 have HG:=Lib.hid hg0;go_enter Tryz.func63,Tryz.ntmps63;go_wp2;refine wp_scope_straight ?_
 go_wp2_with (first|(refine wp_label ?_)|(go_at_call 55;refine(qZ S.mg S.E.globals x HX.out w RV).mono ?_;rintro e W ⟨rfl,hf⟩;rw[hg0];obtain⟨wc,wz,aej,wb⟩:=(HB.out.fr hf (by simp)).rules))
 have HF:=Lib.hid hf;clear hf
 go_loopw [5,7,19] (fun b _l at' wr=>∃(q:Nat) (y:Bool),at'=.int .i64 q∧b=.bool y∧q≤s.scopes.length∧Hid (y=(g0||(s.scopes.reverse.take q).any (·.contains x))∧Fr [] w wr)) (fun _ _ at' _=>s.scopes.length-(intOf at').toNat)
 case atStart=>exact⟨0,g0,rfl,rfl,Nat.zero_le _,by simp,HF.out⟩
 case round =>
  obtain⟨q,y,rfl,rfl,hq1,hq⟩:=hrel
  by_cases hlt:q<s.scopes.length
  ·obtain⟨g',cap',hsv,hgb,hgl⟩:=H2.out.form (by omega)
   cases hsv;obtain⟨m,hm⟩:∃m,ms.reverse[q]? = some m:=⟨_,List.getElem?_eq_getElem (by simp[hl];exact hlt)⟩
   obtain⟨l,hl2,hS⟩:=H4.out.at (ms.length-1-q) m (by rw[List.getElem?_reverse (by omega)]at hm;exact hm)
   have hrev:s.scopes.reverse[q]? = some l:=by rw[List.getElem?_reverse hlt,←hl];exact hl2
   have hst:=FC (·.contains x) s.scopes l q hrev;obtain⟨hy,hfr⟩:=hq.out
   have hcell:wr.cell? ⟨g',q,none⟩=some (.map (some m)):=by
    refine hfr.cell ?_ (by simp);rw[H2.out.cellAt q (by omega),List.getElem?_map,hm];rfl
   have hS2:=hS.fr hfr;have HN:Hid ((y||l.contains x)=(g0||(s.scopes.reverse.take (q+1)).any (·.contains x))∧Fr [] w wr):=⟨by rw[hst,hy,Bool.or_assoc],hfr⟩
   clear hst hy hfr hq hm hl2 hrev hS;cases y with
   | true =>
    go_wp2
    try simp only[Exit.noGoto]
    try go_wp2
    go_ret;exact⟨by rw[A9 HG.out (by simpa using HN.out.1)];rfl,HN.out.2⟩
   | false =>
    rw[Bool.false_or]at HN
    generalize hb:l.contains x=b at HN;cases b with
    | true =>
     go_wp2_with (go_at_call 55;refine(qZ m l x HX.out wr hS2).mono ?_;rintro e W' ⟨rfl,hf'⟩;rw[hb])
     simp only[Exit.noGoto];go_wp2;go_ret;exact⟨by rw[A9 HG.out HN.out.1];rfl,HN.out.2.trans hf'⟩
    | false =>
     go_wp2_with (go_at_call 55;refine(qZ m l x HX.out wr hS2).mono ?_;rintro e W' ⟨rfl,hf'⟩;rw[hb])
     go_roundw
     case rel=>exact⟨q+1,false,by go_num,rfl,by omega,HN.out.1,HN.out.2.trans hf'⟩
     case measure=>simp[intOf];omega
  ·obtain rfl:q=s.scopes.length:=by omega
   obtain⟨hy,hfr⟩:=hq.out
   go_wp2;simp only[Exit.noGoto];go_wp2;go_ret;exact⟨by rw[Nb HG.out,←hy];rfl,hfr⟩
end
structure Cells (base:Nat) (w w1:World):Prop where
 low:Below base w w1
 maps:∀(b:Nat) (es:Array MapEntry) (cl:Nat),w.heap[b]? = some (Obj.map es cl)→w1.heap[b]? = w.heap[b]?
 ct:Ct w w1
theorem Cells.refl (base:Nat) (w:World):Cells base w w:=⟨Below.refl _ _,fun _ _ _ _=>rfl,Ct.refl _⟩
theorem Cells.trans {base:Nat} {a b c:World} (h:Cells base a b) (k:Cells base b c):Cells base a c :=
 ⟨h.low.trans k.low,fun x es cl hx=>(k.maps x es cl ((h.maps x es cl hx).trans hx)).trans (h.maps x es cl hx),h.ct.trans k.ct⟩
theorem Cells.aC {base:Nat} {w w1:World} (hf:Fr [] w w1) (hb:base≤w.heap.size):Cells base w w1 :=
 ⟨Below.aC hf hb,fun b _ _ hx=>hf.block b (Array.getElem?_eq_some_iff.1 hx).1 (by simp),Ct.aC hf⟩
theorem Cells.grown {base:Nat} {w w1:World} {row:Option Nat} (hg:w.grownBy w1 row) (hb:base≤w.heap.size) (hr:∀k,row=some k→base≤k∧∃c T,au w k c T∧(T=64∨T=9)):Cells base w w1:=by
 refine⟨(Below.refl _ _).grown hg (by omega) (fun k e=>(hr k e).1),fun b es cl hx=>hg.block b (Array.getElem?_eq_some_iff.1 hx).1 ?_,hg.size,fun b c T h1 h2 h3 hB=>hB.grown hg (fun e=>?_)⟩
 ·intro e;obtain⟨_,c,T,hB,_⟩:=hr b e.symm
  have:=hB.symm.trans hx;cases this
 ·obtain⟨_,c',T',hB',ht⟩:=hr b e
  have:=hB.symm.trans hB'
  simp at this;rcases ht with ht|ht
  ·exact h2 (this.2.trans ht)
  ·exact h3 (this.2.trans ht)
theorem Cells.blk {base:Nat} {w:World} {b:Nat} {c c':Array Value} (hB:au w b c 69) (hb:base≤b):Cells base w (blk w b c' 69):=by
 refine⟨⟨rfl,rfl,rfl,by rw[aB];exact Nat.le_refl _,fun k hk=>bH (by omega)⟩,fun k es cl hx=>bH ?_,by rw[aB];exact Nat.le_refl _,fun k d T h1 h2 h3 hk=>au.aL hk ?_⟩
 ·rintro rfl;have:=hB.symm.trans hx;cases this
 ·rintro rfl;have:=hB.symm.trans hk;simp at this;exact h1 this.2.symm
theorem mH {W:World} {base:Nat} {e:TypeId} {n:Nat} {v:Value} {xs:List Value} (h:W.ownsRow base e 1 v n xs):∀k,v.ownBlock=some k→base≤k∧∃c,au W k c e:=by
 intro k hk;rcases h.2 with⟨rfl,_⟩|⟨g,cap,cur,rfl,hb,hg,_⟩
 ·cases hk
 ·obtain rfl:g=k:=by simpa[Value.ownBlock]using hk
  exact⟨hb,_,hg⟩
theorem jF {W:World} {b base:Nat} {c c':Array Value} {T e:TypeId} {size n:Nat} {v:Value} {xs:List Value} (h:W.ownsRow base e size v n xs) (hB:au W b c T) (he:e≠T):(blk W b c' T).ownsRow base e size v n xs:=by
 refine h.kept wW ?_;rcases h.2 with⟨rfl,_⟩|⟨g,cap,cur,rfl,_,hg,_⟩
 ·exact .inl rfl
 ·refine .inr fun e'=>?_
  obtain rfl:b=g:=by simpa[Value.ownBlock]using e'.symm
  have:=hB.symm.trans hg;simp at this;exact he this.2.symm
theorem Ba {W W':World} {base:Nat} {e:TypeId} {size n:Nat} {v:Value} {xs:List Value} {row:Option Nat} (h:W.ownsRow base e size v n xs) (hg:W.grownBy W' row) (hr:∀k,row=some k→∃c T,au W k c T∧e≠T):W'.ownsRow base e size v n xs:=by
 refine h.kept hg ?_;rcases h.2 with⟨rfl,_⟩|⟨g,cap,cur,rfl,_,hgb,_⟩
 ·exact .inl rfl
 ·refine .inr fun e'=>?_
  obtain⟨c,T,hB,he⟩:=hr g (by simpa[Value.ownBlock]using e'.symm)
  have:=hB.symm.trans hgb;simp at this;exact he this.2.symm
section
variable {S:lH} {s s':CS} {ms ms':List Nat} {w w1:World}
theorem Sets.cells {base:Nat} {ms:List Nat} {ls:List (List Bytes)} (h:Sets w ms ls) (hc:Cells base w w1):Sets w1 ms ls:=by
 induction ms generalizing ls with
 | nil=>cases ls with
  | nil=>trivial
  | cons=>exact h.elim
 | cons m ms ih=>cases ls with
  | nil=>exact h.elim
  | cons l ls =>
   obtain⟨n,D,⟨es,cl,hb,_⟩,_⟩:=h.1
   exact⟨h.1.eq (hc.maps m es cl hb),ih h.2⟩
theorem eP.cells {base m:Nat} {l:List Bytes} (h:eP w m l) (hc:Cells base w w1):eP w1 m l:=by
 have h':=h;obtain⟨n,D,⟨es,cl,hb,_⟩,_⟩:=h'
 exact h.eq (hc.maps m es cl hb)
theorem MapAt.cells {base m:Nat} {l:List (Bytes × Int)} (h:MapAt w m l) (hc:Cells base w w1):MapAt w1 m l:=by
 have h':=h;obtain⟨n,D,⟨es,cl,hb,_⟩,_⟩:=h'
 exact h.eq (hc.maps m es cl hb)
theorem CK.turn (h:CK S s ms w) (hc:Cells S.base w w1)
  (ex:∃sv lv,au w1 S.bp #[.slice (some ⟨S.g,0,none⟩) S.R.length S.c,.bool S.E.free,.map (some S.mg),.map (some S.mp),.map (some S.ma),sv,lv] 69 ∧
   w1.ownsRow S.base 64 1 sv s'.scopes.length (ms'.reverse.map o8)∧w1.ownsRow S.base 9 1 lv s'.loops.length (cK s'.loops.reverse))
  (hs:Sets w1 ms' s'.scopes) (hn:(S.mg::S.mp::S.ma::ms').Nodup) (hm:∀m∈ms',S.base≤m) (ha:s'.ahead=s.ahead):CK S s' ms' w1 :=
 ⟨ex,hs,hn,hm,h.Je.cells hc,h.par.cells hc,by rw[ha];exact h.Ea.cells hc,h.row,h.gb,h.low.trans hc.low,h.bases,h.bsz,h.vars.below hc.low h.glob,h.glob,h.lim,h.ok⟩
theorem CK.bw (h:CK S s ms w):S.base≤w.heap.size:=by
 obtain⟨sv,lv,h1,_⟩:=h.ex
 have:=h1.lt;have:=h.bases;omega
theorem CK.push {sv lv:Value} {g' cap m l0:_} (h:CK S s ms w) (h1:au w S.bp #[.slice (some ⟨S.g,0,none⟩) S.R.length S.c,.bool S.E.free,.map (some S.mg),.map (some S.mp),.map (some S.ma),sv,lv] 69)
  (h3:w.ownsRow S.base 9 1 lv s.loops.length (cK s.loops.reverse)) (h2:w.ownsRow S.base 64 1 sv s.scopes.length (ms.reverse.map o8))
  (hm:eP w m l0) (hmn:m∉S.mg::S.mp::S.ma::ms) (hmb:S.base≤m) (o:Obj)
  (hown:w1.ownsRow S.base 64 1 (.slice (some ⟨g',0,none⟩) (s.scopes.length+1) cap) (s.scopes.length+1) (ms.reverse.map o8++[o8 m])) (hg:(w.alloc o).grownBy w1 sv.ownBlock) :
  CK S { s with scopes:=l0::s.scopes } (m::ms) (blk w1 S.bp #[.slice (some ⟨S.g,0,none⟩) S.R.length S.c,.bool S.E.free,.map (some S.mg),.map (some S.mp),.map (some S.ma),.slice (some ⟨g',0,none⟩) (s.scopes.length+1) cap,lv] 69) ∧
   Ct w (blk w1 S.bp #[.slice (some ⟨S.g,0,none⟩) S.R.length S.c,.bool S.E.free,.map (some S.mg),.map (some S.mp),.map (some S.ma),.slice (some ⟨g',0,none⟩) (s.scopes.length+1) cap,lv] 69):=by
 have hc1:Cells S.base w (w.alloc o):=Cells.aC ((Fr.refl _ _).alloc _) h.bw;have hrow:=mH h2
 have hne:∀k,sv.ownBlock=some k→k≠S.bp:=fun k e e'=>by
  obtain⟨_,c,hB⟩:=hrow k e
  subst e'
  have:=hB.symm.trans h1;simp at this
 have hc2:Cells S.base (w.alloc o) w1:=Cells.grown hg (by simp;have:=h.bw;omega) (fun k e=>by
  obtain⟨h4,c,hB⟩:=hrow k e
  exact⟨h4,c,_,hB.alloc o,.inl rfl⟩)
 have hB1:au w1 S.bp _ _:=(h1.alloc o).grown hg (fun e=>hne _ e rfl);have hc3:=Cells.blk (base:=S.base) (c':=#[.slice (some ⟨S.g,0,none⟩) S.R.length S.c,.bool S.E.free,.map (some S.mg),.map (some S.mp),.map (some S.ma),.slice (some ⟨g',0,none⟩) (s.scopes.length+1) cap,lv]) hB1 h.bases.1;have hc:=(hc1.trans hc2).trans hc3;refine⟨h.turn hc ⟨_,_,au.blk hB1.lt,?_,?_⟩ ⟨hm.cells hc,h.sets.cells hc⟩ ?_ ?_ rfl,hc.ct⟩
 ·have h4:(blk w1 S.bp #[.slice (some ⟨S.g,0,none⟩) S.R.length S.c,.bool S.E.free,.map (some S.mg),.map (some S.mp),.map (some S.ma),.slice (some ⟨g',0,none⟩) (s.scopes.length+1) cap,lv] 69).ownsRow S.base 64 1 (.slice (some ⟨g',0,none⟩) (s.scopes.length+1) cap) (s.scopes.length+1) (ms.reverse.map o8++[o8 m]):=jF hown hB1 (by decide);simpa using h4
 ·exact jF (Ba (h3.alloc o) hg (fun k e=>by
   obtain⟨_,c,hB⟩:=hrow k e
   exact⟨c,_,hB.alloc o,by decide⟩)) hB1 (by decide)
 ·rw[List.nodup_cons,List.nodup_cons,List.nodup_cons]at *
  have hn:=h.nodup;simp at hmn hn ⊢;refine⟨⟨hn.1.1,hn.1.2.1,fun e=>hmn.1 e.symm,hn.1.2.2⟩,⟨hn.2.1.1,fun e=>hmn.2.1 e.symm,hn.2.1.2⟩,⟨fun e=>hmn.2.2.1 e.symm,hn.2.2.1⟩,hmn.2.2.2,hn.2.2.2⟩
 ·intro k hk;rcases List.mem_cons.1 hk with rfl|hk
  ·exact hmb
  ·exact h.yL k hk
theorem CK.pop {lv:Value} {g' cap n m:Nat} (h:CK S s (m::ms) w) (h1:au w S.bp #[.slice (some ⟨S.g,0,none⟩) S.R.length S.c,.bool S.E.free,.map (some S.mg),.map (some S.mp),.map (some S.ma),.slice (some ⟨g',0,none⟩) (n+1) cap,lv] 69)
  (h3:w.ownsRow S.base 9 1 lv s.loops.length (cK s.loops.reverse)) (h2:w.ownsRow S.base 64 1 (.slice (some ⟨g',0,none⟩) (n+1) cap) (n+1) ((m::ms).reverse.map o8)) :
  CK S { s with scopes:=s.scopes.tail } ms (blk w S.bp #[.slice (some ⟨S.g,0,none⟩) S.R.length S.c,.bool S.E.free,.map (some S.mg),.map (some S.mp),.map (some S.ma),.slice (some ⟨g',0,none⟩) n cap,lv] 69)∧Ct w (blk w S.bp #[.slice (some ⟨S.g,0,none⟩) S.R.length S.c,.bool S.E.free,.map (some S.mg),.map (some S.mp),.map (some S.ma),.slice (some ⟨g',0,none⟩) n cap,lv] 69):=by
 have hc:=Cells.blk (base:=S.base) (c':=#[.slice (some ⟨S.g,0,none⟩) S.R.length S.c,.bool S.E.free,.map (some S.mg),.map (some S.mp),.map (some S.ma),.slice (some ⟨g',0,none⟩) n cap,lv]) h1 h.bases.1;have hS:=h.sets;have hl:=hS.length;have hr:=h2.1;simp at hr;have hsl:s.scopes.tail.length=n:=by simp at hl;rw[List.length_tail];omega
 refine⟨h.turn hc ⟨_,_,au.blk h1.lt,?_,jF h3 h1 (by decide)⟩ ?_ ?_ (fun k hk=>h.yL k (by simp[hk])) rfl,hc.ct⟩
 ·show World.ownsRow _ _ _ _ _ s.scopes.tail.length _;rw[hsl];refine jF (ownsRow_pop (last:=[o8 m]) ?_ ?_) h1 (by decide)
  ·simp;omega
  ·simpa using h2
 ·cases hs:s.scopes with
  | nil=>rw[hs]at hS;exact hS.elim
  | cons l ls=>rw[hs]at hS;exact Sets.cells hS.2 hc
 ·have hn:=h.nodup;simp at hn ⊢;exact⟨⟨hn.1.1,hn.1.2.1,hn.1.2.2.2⟩,⟨hn.2.1.1,hn.2.1.2.2⟩,hn.2.2.1.2,hn.2.2.2.2⟩
theorem CK.mU {sv lv:Value} {g' cap:Nat} {x:Bytes} (h:CK S s ms w) (h1:au w S.bp #[.slice (some ⟨S.g,0,none⟩) S.R.length S.c,.bool S.E.free,.map (some S.mg),.map (some S.mp),.map (some S.ma),sv,lv] 69)
  (h2:w.ownsRow S.base 64 1 sv s.scopes.length (ms.reverse.map o8)) (h3:w.ownsRow S.base 9 1 lv s.loops.length (cK s.loops.reverse)) (o:Obj)
  (hown:w1.ownsRow S.base 9 1 (.slice (some ⟨g',0,none⟩) (s.loops.length+1) cap) (s.loops.length+1) (cK s.loops.reverse++[.string ⟨x.toArray⟩])) (hg:(w.alloc o).grownBy w1 lv.ownBlock) :
  CK S { s with loops:=x::s.loops } ms (blk w1 S.bp #[.slice (some ⟨S.g,0,none⟩) S.R.length S.c,.bool S.E.free,.map (some S.mg),.map (some S.mp),.map (some S.ma),sv,.slice (some ⟨g',0,none⟩) (s.loops.length+1) cap] 69)∧Ct w (blk w1 S.bp #[.slice (some ⟨S.g,0,none⟩) S.R.length S.c,.bool S.E.free,.map (some S.mg),.map (some S.mp),.map (some S.ma),sv,.slice (some ⟨g',0,none⟩) (s.loops.length+1) cap] 69):=by
 have hc1:Cells S.base w (w.alloc o):=Cells.aC ((Fr.refl _ _).alloc _) h.bw;have hrow:=mH h3
 have hne:∀k,lv.ownBlock=some k→k≠S.bp:=fun k e e'=>by
  obtain⟨_,c,hB⟩:=hrow k e
  subst e'
  have:=hB.symm.trans h1;simp at this
 have hc2:Cells S.base (w.alloc o) w1:=Cells.grown hg (by simp;have:=h.bw;omega) (fun k e=>by
  obtain⟨h4,c,hB⟩:=hrow k e
  exact⟨h4,c,_,hB.alloc o,.inr rfl⟩)
 have hB1:au w1 S.bp _ _:=(h1.alloc o).grown hg (fun e=>hne _ e rfl);have hc3:=Cells.blk (base:=S.base) (c':=#[.slice (some ⟨S.g,0,none⟩) S.R.length S.c,.bool S.E.free,.map (some S.mg),.map (some S.mp),.map (some S.ma),sv,.slice (some ⟨g',0,none⟩) (s.loops.length+1) cap]) hB1 h.bases.1;have hc:=(hc1.trans hc2).trans hc3;refine⟨h.turn hc ⟨_,_,au.blk hB1.lt,?_,?_⟩ (h.sets.cells hc) h.nodup h.yL rfl,hc.ct⟩
 ·exact jF (Ba (h2.alloc o) hg (fun k e=>by
   obtain⟨_,c,hB⟩:=hrow k e
   exact⟨c,_,hB.alloc o,by decide⟩)) hB1 (by decide)
 ·have h4:=jF (c':=#[.slice (some ⟨S.g,0,none⟩) S.R.length S.c,.bool S.E.free,.map (some S.mg),.map (some S.mp),.map (some S.ma),sv,.slice (some ⟨g',0,none⟩) (s.loops.length+1) cap]) hown hB1 (by decide);simpa[cK]using h4
theorem CK.zw {sv:Value} {g' cap n:Nat} {x:Bytes} {ls:List Bytes} (h:CK S s ms w) (hs:s.loops=x::ls) (h1:au w S.bp #[.slice (some ⟨S.g,0,none⟩) S.R.length S.c,.bool S.E.free,.map (some S.mg),.map (some S.mp),.map (some S.ma),sv,.slice (some ⟨g',0,none⟩) (n+1) cap] 69)
  (h2:w.ownsRow S.base 64 1 sv s.scopes.length (ms.reverse.map o8)) (h3:w.ownsRow S.base 9 1 (.slice (some ⟨g',0,none⟩) (n+1) cap) (n+1) (cK s.loops.reverse)) :
  CK S { s with loops:=s.loops.tail } ms (blk w S.bp #[.slice (some ⟨S.g,0,none⟩) S.R.length S.c,.bool S.E.free,.map (some S.mg),.map (some S.mp),.map (some S.ma),sv,.slice (some ⟨g',0,none⟩) n cap] 69)∧Ct w (blk w S.bp #[.slice (some ⟨S.g,0,none⟩) S.R.length S.c,.bool S.E.free,.map (some S.mg),.map (some S.mp),.map (some S.ma),sv,.slice (some ⟨g',0,none⟩) n cap] 69):=by
 have hc:=Cells.blk (base:=S.base) (c':=#[.slice (some ⟨S.g,0,none⟩) S.R.length S.c,.bool S.E.free,.map (some S.mg),.map (some S.mp),.map (some S.ma),sv,.slice (some ⟨g',0,none⟩) n cap]) h1 h.bases.1;have hr:=h3.1;rw[hs]at h3 hr
 simp[cK]at hr
 refine⟨h.turn hc ⟨_,_,au.blk h1.lt,jF h2 h1 (by decide),?_⟩ (h.sets.cells hc) h.nodup h.yL rfl,hc.ct⟩;show World.ownsRow _ _ _ _ _ s.loops.tail.length (cK s.loops.tail.reverse);rw[hs,List.tail_cons,hr];refine jF (ownsRow_pop (last:=[.string ⟨x.toArray⟩]) ?_ ?_) h1 (by decide)
 ·simp[cK];omega
 ·simpa[cK]using h3
theorem CK.LQ {sv lv:Value} (h:CK S s ms w) (h1:au w S.bp #[.slice (some ⟨S.g,0,none⟩) S.R.length S.c,.bool S.E.free,.map (some S.mg),.map (some S.mp),.map (some S.ma),sv,lv] 69)
  (h2:w.ownsRow S.base 64 1 sv s.scopes.length (ms.reverse.map o8)) :
  CK S { s with loops:=[] } ms (blk w S.bp #[.slice (some ⟨S.g,0,none⟩) S.R.length S.c,.bool S.E.free,.map (some S.mg),.map (some S.mp),.map (some S.ma),sv,.slice none 0 0] 69)∧Ct w (blk w S.bp #[.slice (some ⟨S.g,0,none⟩) S.R.length S.c,.bool S.E.free,.map (some S.mg),.map (some S.mp),.map (some S.ma),sv,.slice none 0 0] 69):=by
 have hc:=Cells.blk (base:=S.base) (c':=#[.slice (some ⟨S.g,0,none⟩) S.R.length S.c,.bool S.E.free,.map (some S.mg),.map (some S.mp),.map (some S.ma),sv,.slice none 0 0]) h1 h.bases.1;exact⟨h.turn hc ⟨_,_,au.blk h1.lt,jF h2 h1 (by decide),⟨rfl,.inl ⟨rfl,rfl⟩⟩⟩ (h.sets.cells hc) h.nodup h.yL rfl,hc.ct⟩
theorem Ct.map {b:Nat} {es:Array MapEntry} {cl:Nat} (hb:w.heap[b]? = some (Obj.map es cl)) (hg:w.grownBy w1 (some b)):Ct w w1 :=
 ⟨hg.size,fun k c T _ _ _ hk=>hk.grown hg (fun e=>by injection e with e;subst e;have:=hb.symm.trans hk;cases this)⟩
theorem eP.obj {m:Nat} {l:List Bytes} (h:eP w m l):∃es cl,w.heap[m]? = some (Obj.map es cl):=by
 obtain⟨n,D,⟨es,cl,hb,_⟩,_⟩:=h;exact⟨es,cl,hb⟩
theorem CK.LU {b:Nat} {l0:List Bytes} (h:CK S s ms w) (hb:eP w b l0) (hbb:S.base≤b) (hg:w.grownBy w1 (some b)) (hbg:b≠S.mg) (hbp:b≠S.mp)
  (hs:Sets w1 ms s'.scopes) (ha:eP w1 S.ma s'.ahead) (h1:s'.scopes.length=s.scopes.length) (h2:s'.loops=s.loops):CK S s' ms w1∧Ct w w1:=by
 obtain⟨es,cl,Hl⟩:=hb.obj
 obtain⟨sv,lv,e1,e2,e3⟩:=h.ex
 have hlow:Below S.base w w1:=(Below.refl _ _).grown hg h.bw (fun k e=>by injection e with e;omega)
 have hne:∀(k:Nat) (c:Array Value) (T:TypeId),au w k c T→some k≠some b:=fun k c T hk e=>by
  injection e with e;subst e;have:=Hl.symm.trans hk;cases this
 have hk:∀k,k<w.heap.size→k≠b→w1.heap[k]? = w.heap[k]?:=fun k h1 h2=>hg.block k h1 (fun e=>h2 (by injection e))
 have hrow:∀{e:TypeId} {v:Value} {n:Nat} {xs:List Value},w.ownsRow S.base e 1 v n xs→w1.ownsRow S.base e 1 v n xs:=fun {e v n xs} hr=>by
  refine hr.kept hg ?_;rcases hr.2 with⟨rfl,_⟩|⟨g,cap,cur,rfl,_,hgb,_⟩
  ·exact .inl rfl
  ·exact .inr (hne g _ _ hgb)
 exact⟨⟨⟨sv,lv,e1.grown hg (fun e=>hne _ _ _ e1 e.symm),by rw[h1];exact hrow e2,by rw[h2];exact hrow e3⟩,hs,h.nodup,h.yL,h.Je.eq (hk _ h.Je.lt (Ne.symm hbg)),h.par.eq (hk _ h.par.lt (Ne.symm hbp)),ha,h.row,h.gb,
  h.low.trans hlow,h.bases,h.bsz,h.vars.below hlow h.glob,h.glob,h.lim,h.ok⟩,Ct.map Hl hg⟩
theorem CK.PG {m n:Nat} {x:Bytes} {D d:DataW Unit} (h:CK S s (m::ms) w) (hx:x.length≤maxLen) (hn:n≤s.top.length) (hD:Maps.IsMap D) (hh:∀y:Bytes,Maps.has D (.string y)=s.top.contains y)
  (hown:w1.ownsMap Tryz.prog 9 unitElem m (n+1) (D.put (.string x) d)) (hg:w.grownBy w1 (some m)):CK S (s.add x) (m::ms) w1∧Ct w w1:=by
 have hnd:=h.nodup;simp at hnd;have hset:eP w1 m (x::s.top):=⟨n+1,_,hown,by simp;omega,FB hD hx hh d⟩
 refine h.LU h.A8 (h.yL m (by simp)) hg (fun e=>hnd.1.2.2.1 e.symm) (fun e=>hnd.2.1.2.1 e.symm) ?_ ?_ ?_ rfl
 ·have hS:=h.sets;unfold CS.add;cases hs:s.scopes with
  | nil=>rw[hs]at hS;exact hS.elim
  | cons l ls =>
   rw[hs]at hS
   refine⟨hset,hS.2.eq (fun k hk hl=>hg.block k hl (fun e=>?_))⟩;injection e with e;subst e;exact hnd.2.2.2.1 hk
 ·exact h.Ea.eq (hg.block _ h.Ea.lt (fun e=>by injection e with e;exact hnd.2.2.1.1 e))
 ·unfold CS.add
  have:=h.sets.length
  simp at this ⊢;omega
theorem CK.Hq {n:Nat} {x:Bytes} {D d:DataW Unit} (h:CK S s ms w) (hx:x.length≤maxLen) (hn:n≤s.ahead.length) (hD:Maps.IsMap D) (hh:∀y:Bytes,Maps.has D (.string y)=s.ahead.contains y)
  (hown:w1.ownsMap Tryz.prog 9 unitElem S.ma (n+1) (D.put (.string x) d)) (hg:w.grownBy w1 (some S.ma)):CK S { s with ahead:=x::s.ahead } ms w1∧Ct w w1:=by
 have hnd:=h.nodup;simp at hnd;refine h.LU h.Ea h.bases.2 hg (fun e=>hnd.1.2.1 e.symm) (fun e=>hnd.2.1.1 e.symm) ?_ ⟨n+1,_,hown,by simp;omega,FB hD hx hh d⟩ rfl rfl;exact h.sets.eq (fun k hk hl=>hg.block k hl (fun e=>by injection e with e;subst e;exact hnd.2.2.1 hk))
end
def Uh (f:dS):Value:=.iface 26 (.agg #[.int .i64 f.code,.int .i64 f.at'])
def Db (f:dS):Ending:=.panicked [{ v:=Uh f,recovered:=false }]
def iq (S:lH) (ms:List Nat) (w:World) (r:Except dS CS) (e:Ending) (w':World):Prop :=
 (∃f,r=.error f∧e=Db f∧Below S.base S.w0 w')∨(∃s',r=.ok s'∧e=.returned (.tuple #[])∧CK S s' ms w'∧Ct w w')
theorem bX {W:World} {base:Nat} {e:TypeId} {size n n' cap:Nat} {x:Option Addr} {xs:List Value} (h:W.ownsRow base e size (.slice x n' cap) n xs):n≤cap∧cap≤maxLen:=by
 rcases h.2 with⟨h1,rfl⟩|⟨g,c,cur,h1,_,_,h2,h3,_⟩
 ·cases h1;simp[maxLen]
 ·cases h1;exact⟨h2,h3⟩
theorem Tryz.infoNames:(Tryz.prog.info? 64).map (fun i=>(i.zero,i.size,i.bytes))=some (some (.map none),1,8):=by kernel_rfl
section
variable {S:lH} {s:CS} {ms:List Nat} {w:World}
theorem Bb (caps:Array Value) (m:Nat) (l0:List Bytes) (X:Except dS CS) (h:CK S s ms w) (hm:eP w m l0) (hmn:m∉S.mg::S.mp::S.ma::ms) (hmb:S.base≤m) (hd:s.scopes.length≤1000)
  (hf:∀w1,CK S { s with scopes:=l0::s.scopes } (m::ms) w1→Ct w w1→Calls Tryz.prog 57 caps w1 (iq S (m::ms) w1 X)) :
  Calls Tryz.prog 56 #[.pointer (some ⟨S.bp,0,none⟩),.map (some m),.func (.func 57) #[] caps] w (iq S ms w (X >>= fun s'=>pure { s' with scopes:=s'.scopes.tail })):=by
 obtain⟨sv,lv,h1,h2,h3⟩:=h.ex
 obtain⟨kc,kz,aH,kb⟩:=h1.rules
 obtain⟨i0,hi,hz0,hz1,hz2⟩:=info_parts Tryz.infoNames
 have hlt:=fun k e=>(mH h2 k e)
 have HB1:Hid (s.scopes.length+1≤maxLen):=by show _≤_;simp[maxLen];omega
 have HB2:Hid ((s.scopes.length+1)*8≤140737488355328):=by show _≤_;omega
 have hbw:=h.bw;have H:=Lib.hid h;have HF:=Lib.hid hf;clear hf;go_enter Tryz.func56,Tryz.ntmps56
 go_wp2_with (first|(at_builtin;refine wpList_append_lies _ rfl _ _ 66 rfl S.base 64 i0 (.map none) 1 8 Tryz.underlying66 hi hz0 hz1 hz2 rfl (by decide) sv s.scopes.length (ms.reverse.map o8) rfl (h2.alloc _) ⟨w.heap.size,0,none⟩ 1 1 [o8 m] rfl rfl (World.news_of_block (au.new w _ _)) (by simp[Value.oneCell',o8]) (by omega) HB1.out HB2.out (by simp;omega) _ rfl ?_;intro g' cap' w1 hown1 hg1 RD hlt1;obtain⟨qc,qz,bS,qb⟩:=((h1.alloc _).grown hg1 (fun e=>by obtain⟨_,c,hB⟩:=hlt _ e;have:=hB.symm.trans h1;simp at this)).rules))
 obtain⟨hp,cp⟩:=H.out.push h1 h3 h2 hm hmn hmb _ hown1 hg1
 refine(HF.out _ hp cp).mono ?_
 rintro e w2 (⟨f,rfl,rfl,hb2⟩|⟨s2,rfl,rfl,h',c2⟩)
 ·exact⟨rfl,.inl ⟨f,rfl,rfl,hb2⟩⟩
 obtain⟨U8,lv2,b1,b2,b3⟩:=h'.ex
 obtain⟨n,hn⟩:∃n,s2.scopes.length=n+1:=⟨ms.length,by have:=h'.sets.length;simpa using this.symm⟩
 rw[hn]at b2
 obtain⟨g2,cap2,rfl⟩:=ownsRow_succ b2
 have hnm:(n:Int)≤9223372036854775806:=by have:=ownsRow_le b2;unfold maxLen at this;omega
 have hcap:n+1≤cap2:=(bX b2).1;have hcap2:(cap2:Int)≤9223372036854775807:=by have:=(bX b2).2;unfold maxLen at this;omega
 obtain⟨yc,yz,wm,yb⟩:=b1.rules
 have H':=Lib.hid h';have B1:=Lib.hid b1;have B2:=Lib.hid b2;have B3:=Lib.hid b3;have CC:=Lib.hid (cp.trans c2);clear h' b1 b2 b3 cp c2 hp HF H kc kz aH qc qz bS hown1 hg1 h1 h2 h3 hm h hn;go_wp2
 go_region
 all_goals go_end0
 all_goals
  obtain⟨hq,cq⟩:=H'.out.pop B1.out B3.out B2.out
  exact .inr ⟨_,rfl,rfl,hq.fr (Fr.refl _ _).drew,(CC.out.trans cq).trans (Ct.aC (Fr.refl _ _).drew)⟩
theorem Kl (caps:Array Value) (m:Nat) (l0:List Bytes) (X:Except dS CS) (h:CK S s ms w) (hm:eP w m l0) (hmn:m∉S.mg::S.mp::S.ma::ms) (hmb:S.base≤m) (hd:s.scopes.length≤1000)
  (hf:∀w1,CK S { s with scopes:=l0::s.scopes } (m::ms) w1→Ct w w1→Calls Tryz.prog 60 caps w1 (iq S (m::ms) w1 X)) :
  Calls Tryz.prog 56 #[.pointer (some ⟨S.bp,0,none⟩),.map (some m),.func (.func 60) #[] caps] w (iq S ms w (X >>= fun s'=>pure { s' with scopes:=s'.scopes.tail })):=by
 obtain⟨sv,lv,h1,h2,h3⟩:=h.ex
 obtain⟨kc,kz,aH,kb⟩:=h1.rules
 obtain⟨i0,hi,hz0,hz1,hz2⟩:=info_parts Tryz.infoNames
 have hlt:=fun k e=>(mH h2 k e)
 have HB1:Hid (s.scopes.length+1≤maxLen):=by show _≤_;simp[maxLen];omega
 have HB2:Hid ((s.scopes.length+1)*8≤140737488355328):=by show _≤_;omega
 have hbw:=h.bw;have H:=Lib.hid h;have HF:=Lib.hid hf;clear hf;go_enter Tryz.func56,Tryz.ntmps56
 go_wp2_with (first|(at_builtin;refine wpList_append_lies _ rfl _ _ 66 rfl S.base 64 i0 (.map none) 1 8 Tryz.underlying66 hi hz0 hz1 hz2 rfl (by decide) sv s.scopes.length (ms.reverse.map o8) rfl (h2.alloc _) ⟨w.heap.size,0,none⟩ 1 1 [o8 m] rfl rfl (World.news_of_block (au.new w _ _)) (by simp[Value.oneCell',o8]) (by omega) HB1.out HB2.out (by simp;omega) _ rfl ?_;intro g' cap' w1 hown1 hg1 RD hlt1;obtain⟨qc,qz,bS,qb⟩:=((h1.alloc _).grown hg1 (fun e=>by obtain⟨_,c,hB⟩:=hlt _ e;have:=hB.symm.trans h1;simp at this)).rules))
 obtain⟨hp,cp⟩:=H.out.push h1 h3 h2 hm hmn hmb _ hown1 hg1
 refine(HF.out _ hp cp).mono ?_
 rintro e w2 (⟨f,rfl,rfl,hb2⟩|⟨s2,rfl,rfl,h',c2⟩)
 ·exact⟨rfl,.inl ⟨f,rfl,rfl,hb2⟩⟩
 obtain⟨U8,lv2,b1,b2,b3⟩:=h'.ex
 obtain⟨n,hn⟩:∃n,s2.scopes.length=n+1:=⟨ms.length,by have:=h'.sets.length;simpa using this.symm⟩
 rw[hn]at b2
 obtain⟨g2,cap2,rfl⟩:=ownsRow_succ b2
 have hnm:(n:Int)≤9223372036854775806:=by have:=ownsRow_le b2;unfold maxLen at this;omega
 have hcap:n+1≤cap2:=(bX b2).1;have hcap2:(cap2:Int)≤9223372036854775807:=by have:=(bX b2).2;unfold maxLen at this;omega
 obtain⟨yc,yz,wm,yb⟩:=b1.rules
 have H':=Lib.hid h';have B1:=Lib.hid b1;have B2:=Lib.hid b2;have B3:=Lib.hid b3;have CC:=Lib.hid (cp.trans c2);clear h' b1 b2 b3 cp c2 hp HF H kc kz aH qc qz bS hown1 hg1 h1 h2 h3 hm h hn;go_wp2
 go_region
 all_goals go_end0
 all_goals
  obtain⟨hq,cq⟩:=H'.out.pop B1.out B3.out B2.out
  exact .inr ⟨_,rfl,rfl,hq.fr (Fr.refl _ _).drew,(CC.out.trans cq).trans (Ct.aC (Fr.refl _ _).drew)⟩
theorem Bc (caps:Array Value) (m:Nat) (l0:List Bytes) (X:Except dS CS) (h:CK S s ms w) (hm:eP w m l0) (hmn:m∉S.mg::S.mp::S.ma::ms) (hmb:S.base≤m) (hd:s.scopes.length≤1000)
  (hf:∀w1,CK S { s with scopes:=l0::s.scopes } (m::ms) w1→Ct w w1→Calls Tryz.prog 62 caps w1 (iq S (m::ms) w1 X)) :
  Calls Tryz.prog 56 #[.pointer (some ⟨S.bp,0,none⟩),.map (some m),.func (.func 62) #[] caps] w (iq S ms w (X >>= fun s'=>pure { s' with scopes:=s'.scopes.tail })):=by
 obtain⟨sv,lv,h1,h2,h3⟩:=h.ex
 obtain⟨kc,kz,aH,kb⟩:=h1.rules
 obtain⟨i0,hi,hz0,hz1,hz2⟩:=info_parts Tryz.infoNames
 have hlt:=fun k e=>(mH h2 k e)
 have HB1:Hid (s.scopes.length+1≤maxLen):=by show _≤_;simp[maxLen];omega
 have HB2:Hid ((s.scopes.length+1)*8≤140737488355328):=by show _≤_;omega
 have hbw:=h.bw;have H:=Lib.hid h;have HF:=Lib.hid hf;clear hf;go_enter Tryz.func56,Tryz.ntmps56
 go_wp2_with (first|(at_builtin;refine wpList_append_lies _ rfl _ _ 66 rfl S.base 64 i0 (.map none) 1 8 Tryz.underlying66 hi hz0 hz1 hz2 rfl (by decide) sv s.scopes.length (ms.reverse.map o8) rfl (h2.alloc _) ⟨w.heap.size,0,none⟩ 1 1 [o8 m] rfl rfl (World.news_of_block (au.new w _ _)) (by simp[Value.oneCell',o8]) (by omega) HB1.out HB2.out (by simp;omega) _ rfl ?_;intro g' cap' w1 hown1 hg1 RD hlt1;obtain⟨qc,qz,bS,qb⟩:=((h1.alloc _).grown hg1 (fun e=>by obtain⟨_,c,hB⟩:=hlt _ e;have:=hB.symm.trans h1;simp at this)).rules))
 obtain⟨hp,cp⟩:=H.out.push h1 h3 h2 hm hmn hmb _ hown1 hg1
 refine(HF.out _ hp cp).mono ?_
 rintro e w2 (⟨f,rfl,rfl,hb2⟩|⟨s2,rfl,rfl,h',c2⟩)
 ·exact⟨rfl,.inl ⟨f,rfl,rfl,hb2⟩⟩
 obtain⟨U8,lv2,b1,b2,b3⟩:=h'.ex
 obtain⟨n,hn⟩:∃n,s2.scopes.length=n+1:=⟨ms.length,by have:=h'.sets.length;simpa using this.symm⟩
 rw[hn]at b2
 obtain⟨g2,cap2,rfl⟩:=ownsRow_succ b2
 have hnm:(n:Int)≤9223372036854775806:=by have:=ownsRow_le b2;unfold maxLen at this;omega
 have hcap:n+1≤cap2:=(bX b2).1;have hcap2:(cap2:Int)≤9223372036854775807:=by have:=(bX b2).2;unfold maxLen at this;omega
 obtain⟨yc,yz,wm,yb⟩:=b1.rules
 have H':=Lib.hid h';have B1:=Lib.hid b1;have B2:=Lib.hid b2;have B3:=Lib.hid b3;have CC:=Lib.hid (cp.trans c2);clear h' b1 b2 b3 cp c2 hp HF H kc kz aH qc qz bS hown1 hg1 h1 h2 h3 hm h hn;go_wp2
 go_region
 all_goals go_end0
 all_goals
  obtain⟨hq,cq⟩:=H'.out.pop B1.out B3.out B2.out
  exact .inr ⟨_,rfl,rfl,hq.fr (Fr.refl _ _).drew,(CC.out.trans cq).trans (Ct.aC (Fr.refl _ _).drew)⟩
end
theorem wo {H:Type} {P:Program} (w:World) {ops:Array Oper} {rest:List Oper} {o:Oper} {a:Act} {Q:Exit→Act→World→Prop}
  (hg:o.guard=none) (m x v:Operand) (t:TypeId) (hop:o.op=Op.insert t m x v)
  (k e:TypeId) (K:Keyed P k) (ht:P.underlying t=some (.map k e)) (R:Value→Option (DataW H × List MemPlace)) (b n:Nat) (D:DataW H)
  (hm:a.eval m=.map (some b)) (hown:w.ownsMap P k R b n D) (hn:n<maxLen) (key val:Value) (kl:Lit) (hx:a.eval x=key) (hv:a.eval v=val) (hkey:keyOf P k key=some kl)
  (d:DataW H) (ps:List MemPlace) (hval:R val=some (d,ps))
  (hK:∀w',w'.ownsMap P k R b (n+1) (D.put kl d)→w.grownBy w' (some b)→wpList P ops Q rest (a.put o.dst undef) w') :
  wpList P ops Q (o::rest) a w:=by
 refine wpList_plain hg fun K' hK'=>?_
 obtain⟨w',hrun,r1,r2⟩:=hown.update K ht hn hkey hval
 unfold Oper.wp;simp[execOp,hop,hm,hx,hv,hrun,Result.andThen];exact hK' _ _ (hK w' r1 r2)
def qA:Value→Option (DataW Unit × List MemPlace)
 | .agg cs=>match cs.toList with
  | [.int .i64 n,.slice _ _ _,.func _ _ _]=>some (.lit (.int .i64 n),[])
  | [.int .i64 n,.slice _ _ _,.nilFunc]=>some (.lit (.int .i64 n),[])
  | _=>none
 | _=>none
theorem Dc {v:Value} {z:DataW Unit × List MemPlace} (h:qA v=some z):∃n x l c,((∃f p q,v=.agg #[.int .i64 n,.slice x l c,.func f p q])∨v=.agg #[.int .i64 n,.slice x l c,.nilFunc])∧z=(.lit (.int .i64 n),[]):=by
 unfold qA at h;split at h
 ·rename_i cs;split at h
  ·rename_i n x l c f p q he;cases h;refine⟨n,x,l,c,.inl ⟨f,p,q,?_⟩,rfl⟩;rw[show cs=cs.toList.toArray by simp,he]
  ·rename_i n x l c he;cases h;refine⟨n,x,l,c,.inr ?_,rfl⟩;rw[show cs=cs.toList.toArray by simp,he]
  ·cases h
 ·cases h
def BM (w:World) (b:Nat) (l:List (Bytes × Int)):Prop :=
 ∃D,w.ownsMap Tryz.prog 9 qA b l.length D∧∀x:Bytes,Maps.has D (.string x)=(lookup l x).isSome∧D.atKey (.string x) (.lit (.int .i64 0))=.lit (.int .i64 ((lookup l x).getD 0))
theorem BM.put {D:DataW Unit} {l:List (Bytes × Int)} {y:Bytes} {n:Int} (hD:Maps.IsMap D) (hy:y.length≤maxLen) (h:∀x:Bytes,Maps.has D (.string x)=(lookup l x).isSome∧D.atKey (.string x) (.lit (.int .i64 0))=.lit (.int .i64 ((lookup l x).getD 0))) :
  ∀x:Bytes,Maps.has (D.put (.string y) (.lit (.int .i64 n))) (.string x)=(lookup ((y,n)::l) x).isSome∧(D.put (.string y) (.lit (.int .i64 n))).atKey (.string x) (.lit (.int .i64 0))=.lit (.int .i64 ((lookup ((y,n)::l) x).getD 0)):=by
 intro x;unfold lookup;by_cases hx:x=y
 ·subst hx;simp[Maps.has_put_same hD (AZ x hy),Maps.atKey_put_same hD (AZ x hy)]
 ·have hne:(Lit.string x)≠.string y:=by intro e;injection e with e;exact hx e
  rw[Maps.has_put_other hne,Maps.atKey_put_other hne]
  have:(y==x)=false:=by simp;exact fun e=>hx e.symm
  simp only[this];exact h x
theorem BM.fr {w w':World} {b:Nat} {l:List (Bytes × Int)} (h:BM w b l) (hf:Fr [] w w'):BM w' b l:=by
 obtain⟨D,h1,h2⟩:=h
 exact⟨D,fI h1 (hf.block b h1.lt (by simp)),h2⟩
theorem BM.alloc {w:World} {b:Nat} {l:List (Bytes × Int)} (h:BM w b l) (o:Obj):BM (w.alloc o) b l:=h.fr ((Fr.refl _ _).alloc o)
theorem xL (w:World) {ops:Array Oper} {rest:List Oper} {o:Oper} {a:Act} {Q:Exit→Act→World→Prop}
  (hg:o.guard=none) (m x v:Operand) (hop:o.op=Op.insert 130 m x v) (b:Nat) (l:List (Bytes × Int)) (hm:a.eval m=.map (some b)) (h:BM w b l) (hn:l.length<1000) (y:Bytes) (hy:y.length≤1000)
  (hx:a.eval x=.string ⟨y.toArray⟩) (n:Int) (xa:Option Addr) (xl xc:Nat) (f:Fn) (p q:Array Value) (hv:a.eval v=.agg #[.int .i64 n,.slice xa xl xc,.func f p q])
  (hK:∀w',BM w' b ((y,n)::l)→w.grownBy w' (some b)→wpList Tryz.prog ops Q rest (a.put o.dst undef) w'):wpList Tryz.prog ops Q (o::rest) a w:=by
 obtain⟨D,h1,h2⟩:=h
 have hy':y.length≤maxLen:=by simp[maxLen];omega
 refine wo w hg m x v _ hop 9 128 l6 Tryz.underlying130 qA b l.length D hm h1 (by simp[maxLen];omega) _ _ _ hx hv (uj hy') (.lit (.int .i64 n)) [] rfl ?_;intro w' hown hgr;exact hK w' ⟨_,hown,BM.put h1.isMap hy' h2⟩ hgr
theorem Tryz.infoBuilt:(Tryz.prog.info? 128).map (·.size)=some 3:=by kernel_rfl
theorem PI (x:Int) (w:World):Calls Tryz.prog 127 #[.int .i64 x] w fun e w'=>∃xa xl xc f p q,e=.returned (.agg #[.int .i64 1,.slice xa xl xc,.func f p q])∧Fr [] w w':=by
 go_enter Tryz.func127,Tryz.ntmps127;go_wp2;have hB:=((au.new (w.alloc (.cells #[.int .i64 x] 3)) #[.int .i64 1,.slice (some ⟨w.heap.size+1+1,0,none⟩) 1 1,.func (.func 168) #[] #[.pointer (some ⟨w.heap.size,0,none⟩)]] 128).alloc (.cells #[.int .i64 0] 3))
 simp only[World.size_alloc]at hB;refine⟨rfl,_,results_cell_row rfl _ _ (w.heap.size+1) 128 _ (0,0) _ rfl hB Tryz.underlying128 rfl Tryz.infoBuilt,⟨_,_,_,_,_,_,rfl,(((Fr.refl _ _).alloc _).alloc _).alloc _⟩⟩
structure BK (w:World) (b:Nat) (l:List (Bytes × Int)) (W:World):Prop where
 bm:BM W b l
 fr:Fr [] w W
 nb:w.heap.size≤b
theorem BK.alloc {w W:World} {b:Nat} {l:List (Bytes × Int)} (h:BK w b l W) (o:Obj):BK w b l (W.alloc o):=⟨h.bm.alloc o,h.fr.alloc o,h.nb⟩
theorem BK.frn {w W W':World} {b:Nat} {l:List (Bytes × Int)} (h:BK w b l W) (hf:Fr [] W W'):BK w b l W':=⟨h.bm.fr hf,h.fr.trans hf,h.nb⟩
theorem qB {w W:World} {ops:Array Oper} {rest:List Oper} {o:Oper} {a:Act} {Q:Exit→Act→World→Prop} {b:Nat} {l:List (Bytes × Int)} (h:BK w b l W)
  (hg:o.guard=none) (m x v:Operand) (hop:o.op=Op.insert 130 m x v) (hm:a.eval m=.map (some b)) (hn:l.length<1000) (y:Bytes)
  (hx:a.eval x=.string ⟨y.toArray⟩) (n:Int) (xa:Option Addr) (xl xc:Nat) (f:Fn) (p q:Array Value) (hv:a.eval v=.agg #[.int .i64 n,.slice xa xl xc,.func f p q]) (hy:y.length≤1000)
  (hK:∀w',BK w b ((y,n)::l) w'→wpList Tryz.prog ops Q rest (a.put o.dst undef) w'):wpList Tryz.prog ops Q (o::rest) a W :=
 xL W hg m x v hop b l hm h.bm hn y hy hx n xa xl xc f p q hv fun w' h1 h2=>hK w' ⟨h1,h.fr.grown h2 (fun k e=>.inr (by injection e with e;subst e;exact h.nb)),h.nb⟩
theorem FD (w:World):Calls Tryz.prog 82 #[] w fun e w'=>∃b,e=.returned (.map (some b))∧BM w' b Ck.builtins.reverse∧Fr [] w w':=by
 have hK:BK w w.heap.size [] (w.alloc (.map #[] 0)):=⟨⟨_,World.ownsMap_made w _ _ _,fun x=>by simp[Maps.has,lookup,DataW.atKey]⟩,(Fr.refl _ _).alloc _,Nat.le_refl _⟩
 have hmm:=@run_makeMap Tryz.prog;go_enter Tryz.func82,Tryz.ntmps82
 go_wp2_with (first
  | (refine qB hK rfl _ _ _ rfl rfl (by simp) _ rfl _ _ _ _ _ _ _ rfl (by simp) ?_;clear hK;intro W hK)
  | (refine qB (hK.alloc _) rfl _ _ _ rfl rfl (by simp) _ rfl _ _ _ _ _ _ _ rfl (by simp) ?_;clear hK;intro W hK)
  | (go_at_call 127;refine(PI _ _).mono ?_;rintro e W2 ⟨xa,xl,xc,f,p,q,rfl,hf⟩;have hK2:=hK.frn hf;clear hK;have hK:=hK2;clear hK2))
 go_ret;exact⟨_,rfl,hK.bm,hK.fr⟩
theorem lookup_append (l r:List (Bytes × Int)) (x:Bytes):lookup (l++r) x=(lookup l x).or (lookup r x):=by
 induction l with
 | nil=>simp[lookup]
 | cons p l ih =>
  simp only[List.cons_append,lookup];split
  ·rfl
  ·exact ih
theorem Hr {l:List (Bytes × Int)} {x:Bytes} (h:∀p∈l,p.1≠x):lookup l x=none:=by
 induction l with
 | nil=>rfl
 | cons p l ih =>
  unfold lookup
  have:(p.1==x)=false:=by simp;exact h p (by simp)
  simp only[this];exact ih (fun q hq=>h q (by simp[hq]))
theorem Bg {l:List (Bytes × Int)} (h:(l.map (·.1)).Nodup) (x:Bytes):lookup l.reverse x=lookup l x:=by
 induction l with
 | nil=>rfl
 | cons p l ih =>
  simp only[List.map_cons,List.nodup_cons]at h;rw[List.reverse_cons,lookup_append,ih h.2];obtain⟨n,a⟩:=p
  simp only[lookup];by_cases hx:n=x
  ·subst hx;rw[Hr (fun q hq e=>h.1 (by rw[←e];exact List.mem_map_of_mem (f:=(·.1)) hq))];simp
  ·have:(n==x)=false:=by simp[hx]
   simp[this]
theorem rO (x:Bytes):lookup Ck.builtins.reverse x=Ck.arity x:=Bg (by decide) x
theorem Wt (w:World):(zeroValue 128).run Tryz.prog w=.ok (.agg #[.int .i64 0,.slice none 0 0,.nilFunc]) w:=by kernel_rfl
theorem xM (x:Bytes) (hx:x.length≤maxLen) (w:World):Calls Tryz.prog 54 #[.string ⟨x.toArray⟩] w fun e w'=>e=.returned (.tuple #[.int .i64 ((Ck.arity x).getD 0),.bool (Ck.arity x).isSome])∧Fr [] w w':=by
 go_enter Tryz.func54,Tryz.ntmps54;have hkey:=uj hx
 go_wp2_with (first|(at_lookup;refine wpList_lookup_own_ok _ rfl _ _ 130 rfl 9 128 l6 Tryz.underlying130 qA (Wt _) (.lit (.int .i64 0)) [] rfl b _ D rfl hD1 _ _ rfl hkey ?_;intro v ps hv;obtain⟨n,xa,xl,xc,hvv,hz⟩:=Dc hv;rcases hvv with⟨f,p,q,rfl⟩|rfl)|go_at_call 82;refine(FD _).mono ?_;rintro e W ⟨b,rfl,⟨D,hD1,hD2⟩,hf⟩)
 all_goals
  have hn:=hz;rw[(hD2 x).2,rO]at hn
  simp only[Prod.mk.injEq,DataW.lit.injEq,Lit.int.injEq,true_and]at hn;rw[rO]
  go_ret2
  exact⟨by rw[hn.1];rfl,hf.alloc _⟩
theorem jG (b:Bool) (e:Int) (nb:Nat) (n:Ck.Node) (w:World) (hb:au w nb #[.int .i64 n.kind,.int .i64 n.at',.int .i64 n.kids,.string ⟨n.text.toArray⟩,.int .i64 n.int,.int .u64 n.bits] 40) :
  Calls Tryz.prog 50 #[.bool b,.int .i64 e,.pointer (some ⟨nb,0,none⟩)] w fun e' w'=>(b=true∧e'=Db ⟨e,n.at'⟩∧w=w')∨(b=false∧e'=.returned (.tuple #[])∧w=w'):=by
 obtain⟨kc,kz,aH,kb⟩:=hb.rules
 clear hb;cases b with
 | true =>
  go_enter Tryz.func50,Tryz.ntmps50;go_wp2;exact⟨rfl,.inl ⟨trivial,rfl,rfl⟩⟩
 | false =>
  go_enter Tryz.func50,Tryz.ntmps50;go_wp2
  go_end0
  exact .inr ⟨trivial,rfl,rfl⟩
structure HW (S:lH) (w:World):Prop where
 oP:∃cs,au w S.bp cs 69∧cs[0]? = some (.slice (some ⟨S.g,0,none⟩) S.R.length S.c)
 row:J4 S.R S.g w
theorem HW.fr {S:lH} {w w':World} (h:HW S w) {L:List Nat} (hf:Fr L w w') (h1:S.bp∉L) (h2:S.g∉L):HW S w':=by
 obtain⟨cs,hb,hc⟩:=h.oP
 exact⟨⟨cs,hb.fr hf h1,hc⟩,h.row.fr hf h2⟩
def Three (n:Ck.Node) (ks:List Tree):Prop:=(n.kind=11→3≤ks.length)∧n.kind≤31
abbrev Ht (S:lH) (N:Nat):Prop:=∀(T:Tree) (rest:List Ck.Node) (i h:Nat) (w:World),T.size≤N→S.R.drop i=T.row++rest→T.all Three→h+5*T.size≤1000000000000000→HW S w →
 Calls Tryz.prog 32 #[.pointer (some ⟨S.bp,0,none⟩),.int .i64 i,.int .i64 h] w fun e w'=>e=.returned (.int .i64 (T.height h:Nat))∧Fr [] w w'
section
variable {S:lH} {N:Nat}
theorem sI (ih:Ht S N) (T:Tree) (rest:List Ck.Node) (i h m bm bc:Nat) (w:World) (hs:T.size≤N) (hT:S.R.drop i=T.row++rest) (hA:T.all Three) (hh:h+5*T.size≤1000000000000000) (hm:m≤2000000000000000) (hw:HW S w)
  (hb1:au w bm #[.int .i64 m] 3) (hb2:au w bc #[.pointer (some ⟨S.bp,0,none⟩)] 45) :
  Calls Tryz.prog 64 #[.int .i64 i,.int .i64 h,.pointer (some ⟨bm,0,none⟩),.pointer (some ⟨bc,0,none⟩)] w fun e w'=>e=.returned (.tuple #[])∧au w' bm #[.int .i64 (max m (T.height h):Nat)] 3∧Fr [bm] w w':=by
 have hle:=fC T h;obtain⟨kc,kz,aH,kb⟩:=hb1.rules
 obtain⟨jc,jz,RX,jb⟩:=hb2.rules
 generalize hq:T.height h=q at *;go_enter Tryz.func64,Tryz.ntmps64;go_wp2;have hne:bc≠bm:=by rintro rfl;have:=hb1.symm.trans hb2;simp at this
 have hmax:(max (m:Int) (q:Int))=((max m q:Nat):Int):=by omega
 have hS:(fun X:World=>X.cell? ⟨bc,0,none⟩=some (.pointer (some ⟨S.bp,0,none⟩))) w.drew:=by show w.cell? _=_;rw[jc];rfl
 refine wp_region_held (S:=fun X:World=>X.cell? ⟨bc,0,none⟩=some (.pointer (some ⟨S.bp,0,none⟩))) (by kernel_rfl) ?_;refine tk 1 (.pointer (some ⟨S.bp,0,none⟩)) rfl hS (fun X hX=>?_) ?_
 ·go_simp
 simp only[Act.put,acts];refine tk 2 (.int .i64 i) rfl hS (fun X hX=>?_) ?_
 ·go_simp
 simp only[Act.put,acts];refine tk 3 (.int .i64 h) rfl hS (fun X hX=>?_) ?_
 ·go_simp
 simp only[Act.put,acts];refine wpAnyH_all (rs:=[0,4]) (by kernel_rfl) (by simp) ?_;intro i2 hi2;have hi3:i2=0∨i2=4:=by simpa using hi2
 rcases hi3 with rfl|rfl
 ·refine wpOp_step rfl (fun K hK=>?_);rw[if_pos (by rfl)];go_simp;refine hK _ _ ⟨hS,?_⟩;refine wpAnyH_all (rs:=[4]) (by kernel_rfl) (by simp) ?_;intro i2 hi2;obtain rfl:i2=4:=by simpa using hi2
  refine wpOp_step rfl (fun K hK=>?_);rw[if_pos (by rfl)];go_simp;refine(ih T rest i h w.drew hs hT hA hh (hw.fr (Fr.refl [] _).drew (by simp) (by simp))).mono ?_
  rw[hq];rintro e w1 ⟨rfl,hf'⟩;have hf:Fr [] w w1:=((Fr.refl [] w).drew).trans hf';have hb1':=hb1.fr hf (by simp);have hb2':=hb2.fr hf (by simp);obtain⟨qc,qz,bS,qb⟩:=hb1'.rules
  obtain⟨rc,rz,bE,rb⟩:=hb2'.rules
  refine hK _ _ ⟨by rw[rc];rfl,?_⟩;refine wpAnyH_all (rs:=[5]) (by kernel_rfl) (by simp) ?_;intro i2 hi2;obtain rfl:i2=5:=by simpa using hi2
  refine wpOp_step rfl (fun K hK=>?_);rw[if_pos (by rfl)];go_simp;refine hK _ _ ⟨by rw[rc];rfl,?_⟩;refine wpAnyH_all (rs:=[6]) (by kernel_rfl) (by simp) ?_;intro i2 hi2;obtain rfl:i2=6:=by simpa using hi2
  refine wpOp_step rfl (fun K hK=>?_);rw[if_pos (by rfl)];go_simp;refine hK _ _ ⟨by rw[sJ hne];rw[rc];rfl,wpAnyH_done (by kernel_rfl) ?_ _⟩;go_wp2
  go_end0
  exact⟨rfl,by first|exact au.blk qb|(rw[←hmax];exact au.blk qb),hf.nil.blk (.inl (by simp)) _ _⟩
 ·refine wpOp_step rfl (fun K hK=>?_);rw[if_pos (by rfl)];go_simp;refine(ih T rest i h w.drew hs hT hA hh (hw.fr (Fr.refl [] _).drew (by simp) (by simp))).mono ?_
  rw[hq];rintro e w1 ⟨rfl,hf'⟩;have hf:Fr [] w w1:=((Fr.refl [] w).drew).trans hf';have hb1':=hb1.fr hf (by simp);have hb2':=hb2.fr hf (by simp);obtain⟨qc,qz,bS,qb⟩:=hb1'.rules
  obtain⟨rc,rz,bE,rb⟩:=hb2'.rules
  refine hK _ _ ⟨by rw[rc];rfl,?_⟩;refine wpAnyH_all (rs:=[0]) (by kernel_rfl) (by simp) ?_;intro i2 hi2;obtain rfl:i2=0:=by simpa using hi2
  refine wpOp_step rfl (fun K hK=>?_);rw[if_pos (by rfl)];go_simp;refine hK _ _ ⟨by rw[rc];rfl,?_⟩;refine wpAnyH_all (rs:=[5]) (by kernel_rfl) (by simp) ?_;intro i2 hi2;obtain rfl:i2=5:=by simpa using hi2
  refine wpOp_step rfl (fun K hK=>?_);rw[if_pos (by rfl)];go_simp;refine hK _ _ ⟨by rw[rc];rfl,?_⟩;refine wpAnyH_all (rs:=[6]) (by kernel_rfl) (by simp) ?_;intro i2 hi2;obtain rfl:i2=6:=by simpa using hi2
  refine wpOp_step rfl (fun K hK=>?_);rw[if_pos (by rfl)];go_simp;refine hK _ _ ⟨by rw[sJ hne];rw[rc];rfl,wpAnyH_done (by kernel_rfl) ?_ _⟩;go_wp2
  go_end0
  exact⟨rfl,by first|exact au.blk qb|(rw[←hmax];exact au.blk qb),hf.nil.blk (.inl (by simp)) _ _⟩
end
end Go.Proofs.YtoomapkcoibmhaaGreatDoor
end
