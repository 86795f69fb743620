/- A part of the proof. -/
import Derived.Lib.LaidTab
import Derived.Below
import Derived.Laws.OwnMore
import Derived.Deep.AppendLies
import Derived.Deep.Draws
import Derived.Maps.AppendAt
import Derived.RegionTactic
import Derived.OwnWalk
import Derived.RangeFuncCalls
import Derived.TacticsIn
import Derived.OwnWalkIn
import Derived.Shelf.SlGeneric
import Derived.Shelf.SlIterI.Nil
import Derived.Shelf.SortM.Plain
import Derived.Shelf.SortM.SortNone
import Derived.Ground.GgzProg
import Derived.Ground.SlgmProg
import Derived.Test.YtoomapkcoibmhaaGreatDoorProg
import Derived.Test.YtoomapkcoibmhaaGreatDoorQ7
set_option maxRecDepth 100000
set_option maxHeartbeats 12800000
set_option linter.all false
section
open Go Go.Proofs Go.RowKit Ck
namespace Go.Proofs.YtoomapkcoibmhaaGreatDoor
theorem zC {p:UInt8→Bool} {s:Bytes} {i:Nat} (h:i<s.length) (hp:p s[i]=true):run p (s.drop i)=run p (s.drop (i+1))+1:=by
 rw[List.drop_eq_getElem_cons h];simp[run,hp]
theorem F9 {p:UInt8→Bool} {s:Bytes} {i:Nat} (h:i<s.length) (hp:p s[i]=false):run p (s.drop i)=0:=by
 rw[List.drop_eq_getElem_cons h];simp[run,hp]
theorem EI (p:UInt8→Bool) (s:Bytes):run p s≤s.length:=by
 induction s with
 | nil=>simp[run]
 | cons c s ih=>simp only[run];split<;>simp<;>omega
def jh (c:UInt8):Bool:=lower c||digit c
def nL (c:UInt8):Bool:=lM c||c==46
def oo (c:UInt8):Bool:=c != 10
theorem NV (c:UInt8) (w:World) :
 Calls Tryz.prog 142 #[.int .u8 c.toNat] w (fun e w'=>e=.returned (.bool (jh c))∧w=w'):=by
 go_enter Tryz.func142,Tryz.ntmps142
 go_wp2_with (first|(go_at_call 95;refine(nV c _).mono ?_;rintro e w' ⟨rfl,rfl⟩)|(go_at_call 99;refine(kP c _).mono ?_;rintro e w' ⟨rfl,rfl⟩))
 all_goals go_ret
 all_goals (refine⟨lD ?_,rfl⟩;simp[jh, *])
theorem I5 (c:UInt8) (w:World) :
 Calls Tryz.prog 146 #[.int .u8 c.toNat] w (fun e w'=>e=.returned (.bool (nL c))∧w=w'):=by
 have e46:((c.toNat:Int)=46)↔c=46:=by
  rw[←UInt8.toNat_inj];simp;omega
 have H:=Lib.hid e46;clear e46;go_enter Tryz.func146,Tryz.ntmps146
 go_wp2_with (go_at_call 147;refine(qQ c _).mono ?_;rintro e w' ⟨rfl,rfl⟩)
 all_goals go_ret
 all_goals (refine⟨lD ?_,rfl⟩;simp[nL, *])
 all_goals (rw[Bool.eq_iff_iff];simp[H.out])
theorem NW (c:UInt8) (w:World) :
 Calls Tryz.prog 70 #[.int .u8 c.toNat] w (fun e w'=>e=.returned (.bool (oo c))∧w=w'):=by
 have e10:((c.toNat:Int)=10)↔c=10:=by
  rw[←UInt8.toNat_inj];simp;omega
 have H:=Lib.hid e10;clear e10;go_enter Tryz.func70,Tryz.ntmps70;go_wp2
 all_goals go_ret
 all_goals (refine⟨lD ?_,rfl⟩;rw[Bool.eq_iff_iff];simp[oo,H.out])
theorem DC (s:Bytes) (a:Nat) (w:World) (hs:s.length≤140737488351232) (ha:a≤s.length) :
 Calls Tryz.prog 69 #[.string ⟨s.toArray⟩,.int .i64 a,.func (.func 99) #[] #[]] w (fun e w'=>e=.returned (.int .i64 (run digit (s.drop a)))∧w=w'):=by
 go_enter Tryz.func69,Tryz.ntmps69;go_wp2
 go_loop [7] (fun n=>∃k:Nat,n=.int .i64 k∧a+k≤s.length∧Hid (k+run digit (s.drop (a+k))=run digit (s.drop a))) (fun n=>s.length-a-(intOf n).toNat)
 case atStart=>exact⟨0,rfl,by omega,by simp[Hid]⟩
 case round =>
  obtain⟨k,rfl,hk,hr⟩:=hrel
  by_cases hlt:a+k<s.length
  ·go_wp2_with (go_at_call 99;refine(kP s[a+k] _).mono ?_;rintro e w' ⟨rfl,rfl⟩)
   ·refine⟨⟨k+1,by go_num,by omega,?_⟩,by simp[intOf];omega⟩;have h1:=zC (p:=digit) hlt (by assumption);have h2:=hr.out;show _=_;rw[show a+(k+1)=a+k+1 from rfl];omega
   ·go_ret;refine⟨mK ?_,rfl⟩;have h1:=F9 (p:=digit) hlt (by assumption);have h2:=hr.out
    first|omega|(simp;omega)
  ·go_wp2;go_ret;refine⟨mK ?_,rfl⟩
   have:=hr.out
   rw[List.drop_eq_nil_of_le (by omega)]at this
   simp[run]at this
   first|omega|(simp;omega)
theorem Q0 (s:Bytes) (a:Nat) (w:World) (hs:s.length≤140737488351232) (ha:a≤s.length) :
 Calls Tryz.prog 69 #[.string ⟨s.toArray⟩,.int .i64 a,.func (.func 142) #[] #[]] w (fun e w'=>e=.returned (.int .i64 (run jh (s.drop a)))∧w=w'):=by
 go_enter Tryz.func69,Tryz.ntmps69;go_wp2
 go_loop [7] (fun n=>∃k:Nat,n=.int .i64 k∧a+k≤s.length∧Hid (k+run jh (s.drop (a+k))=run jh (s.drop a))) (fun n=>s.length-a-(intOf n).toNat)
 case atStart=>exact⟨0,rfl,by omega,by simp[Hid]⟩
 case round =>
  obtain⟨k,rfl,hk,hr⟩:=hrel
  by_cases hlt:a+k<s.length
  ·go_wp2_with (go_at_call 142;refine(NV s[a+k] _).mono ?_;rintro e w' ⟨rfl,rfl⟩)
   ·refine⟨⟨k+1,by go_num,by omega,?_⟩,by simp[intOf];omega⟩;have h1:=zC (p:=jh) hlt (by assumption);have h2:=hr.out;show _=_;rw[show a+(k+1)=a+k+1 from rfl];omega
   ·go_ret;refine⟨mK ?_,rfl⟩;have h1:=F9 (p:=jh) hlt (by assumption);have h2:=hr.out
    first|omega|(simp;omega)
  ·go_wp2;go_ret;refine⟨mK ?_,rfl⟩
   have:=hr.out
   rw[List.drop_eq_nil_of_le (by omega)]at this
   simp[run]at this
   first|omega|(simp;omega)
theorem Rm (s:Bytes) (a:Nat) (w:World) (hs:s.length≤140737488351232) (ha:a≤s.length) :
 Calls Tryz.prog 69 #[.string ⟨s.toArray⟩,.int .i64 a,.func (.func 146) #[] #[]] w (fun e w'=>e=.returned (.int .i64 (run nL (s.drop a)))∧w=w'):=by
 go_enter Tryz.func69,Tryz.ntmps69;go_wp2
 go_loop [7] (fun n=>∃k:Nat,n=.int .i64 k∧a+k≤s.length∧Hid (k+run nL (s.drop (a+k))=run nL (s.drop a))) (fun n=>s.length-a-(intOf n).toNat)
 case atStart=>exact⟨0,rfl,by omega,by simp[Hid]⟩
 case round =>
  obtain⟨k,rfl,hk,hr⟩:=hrel
  by_cases hlt:a+k<s.length
  ·go_wp2_with (go_at_call 146;refine(I5 s[a+k] _).mono ?_;rintro e w' ⟨rfl,rfl⟩)
   ·refine⟨⟨k+1,by go_num,by omega,?_⟩,by simp[intOf];omega⟩;have h1:=zC (p:=nL) hlt (by assumption);have h2:=hr.out;show _=_;rw[show a+(k+1)=a+k+1 from rfl];omega
   ·go_ret;refine⟨mK ?_,rfl⟩;have h1:=F9 (p:=nL) hlt (by assumption);have h2:=hr.out
    first|omega|(simp;omega)
  ·go_wp2;go_ret;refine⟨mK ?_,rfl⟩
   have:=hr.out
   rw[List.drop_eq_nil_of_le (by omega)]at this
   simp[run]at this
   first|omega|(simp;omega)
theorem OG (s:Bytes) (a:Nat) (w:World) (hs:s.length≤140737488351232) (ha:a≤s.length) :
 Calls Tryz.prog 69 #[.string ⟨s.toArray⟩,.int .i64 a,.func (.func 70) #[] #[]] w (fun e w'=>e=.returned (.int .i64 (run oo (s.drop a)))∧w=w'):=by
 go_enter Tryz.func69,Tryz.ntmps69;go_wp2
 go_loop [7] (fun n=>∃k:Nat,n=.int .i64 k∧a+k≤s.length∧Hid (k+run oo (s.drop (a+k))=run oo (s.drop a))) (fun n=>s.length-a-(intOf n).toNat)
 case atStart=>exact⟨0,rfl,by omega,by simp[Hid]⟩
 case round =>
  obtain⟨k,rfl,hk,hr⟩:=hrel
  by_cases hlt:a+k<s.length
  ·go_wp2_with (go_at_call 70;refine(NW s[a+k] _).mono ?_;rintro e w' ⟨rfl,rfl⟩)
   ·refine⟨⟨k+1,by go_num,by omega,?_⟩,by simp[intOf];omega⟩;have h1:=zC (p:=oo) hlt (by assumption);have h2:=hr.out;show _=_;rw[show a+(k+1)=a+k+1 from rfl];omega
   ·go_ret;refine⟨mK ?_,rfl⟩;have h1:=F9 (p:=oo) hlt (by assumption);have h2:=hr.out
    first|omega|(simp;omega)
  ·go_wp2;go_ret;refine⟨mK ?_,rfl⟩
   have:=hr.out
   rw[List.drop_eq_nil_of_le (by omega)]at this
   simp[run]at this
   first|omega|(simp;omega)
theorem zJ (s:Bytes) (w:World) (hs:s.length≤140737488351232) :
 Calls Tryz.prog 69 #[.string ⟨s.toArray⟩,.int .i64 0,.func (.func 99) #[] #[]] w (fun e w'=>e=.returned (.int .i64 (run digit s))∧w=w'):=DC s 0 w hs (Nat.zero_le _)
theorem tF (s:Bytes) (w:World) (hs:s.length≤140737488351232) :
 Calls Tryz.prog 69 #[.string ⟨s.toArray⟩,.int .i64 0,.func (.func 142) #[] #[]] w (fun e w'=>e=.returned (.int .i64 (run jh s))∧w=w'):=Q0 s 0 w hs (Nat.zero_le _)
structure Q5 (G:World):Prop where
 range:∃tp p,G.var? Tryz.prog "strconv.ErrRange" = some #[.iface tp p]
 acI:∃tp p,G.var? Tryz.prog "strconv.ErrSyntax" = some #[.iface tp p]
 Tj:Lib.TabIs Tryz.prog G "internal/strconv.uint64pow10" .u64 Lib.pow10Tab
 bruijn:G.var? Tryz.prog "math/bits.deBruijn64tab" = some (([0,1,56,2,57,49,28,3,61,58,42,50,38,29,17,4,62,47,59,36,45,43,51,22,53,39,33,30,24,18,12,5,63,55,48,27,60,41,37,16,46,35,44,21,52,32,23,11,54,26,40,15,34,20,31,10,25,14,19,9,13,8,7,6]:List Int).map fun z=>Value.int .u8 z).toArray
def Vars (w:World):Prop:=∃G,Q5 G∧∀k,k<Tryz.prog.globals.size→∃o:Obj,o.isCells=true∧G.heap[k]? = some o∧w.heap[k]? = some o
theorem Vars.le {w:World} (h:Vars w):Tryz.prog.globals.size≤w.heap.size:=by
 obtain⟨G,_,hk⟩:=h
 rcases Nat.lt_or_ge w.heap.size Tryz.prog.globals.size with hlt|hge
 ·obtain⟨o,_,_,h2⟩:=hk _ hlt
  rw[Array.getElem?_eq_none (Nat.le_refl _)]at h2;cases h2
 ·exact hge
theorem Vars.fr {S:List Nat} {w w':World} (h:Vars w) (hf:Fr S w w') (hS:∀x∈S,Tryz.prog.globals.size≤x):Vars w':=by
 obtain⟨G,hG,hk⟩:=h
 refine⟨G,hG,fun k hlt=>?_⟩;obtain⟨o,h0,h1,h2⟩:=hk k hlt
 exact⟨o,h0,h1,by rw[hf.block k (Array.getElem?_eq_some_iff.1 h2).1 (fun hm=>by have:=hS k hm;omega)];exact h2⟩
theorem Vars.put {w:World} (h:Vars w) (l:Nat) (o o':Obj) (ho:w.heap[l]? = some o) (hc:o.isCells=false):Vars (w.putObj l o'):=by
 obtain⟨G,hG,hk⟩:=h
 refine⟨G,hG,fun k hlt=>?_⟩;obtain⟨u,h0,h1,h2⟩:=hk k hlt
 refine⟨u,h0,h1,?_⟩;have hne:k≠l:=fun e=>by subst e;rw[ho]at h2;cases h2;rw[h0]at hc;cases hc
 exact(World.putObj_heap_other hne).trans h2
theorem ab1 {P:Program} {name:String} {g:Nat} (h:P.globalNamed name=some g):g<P.globals.size:=by
 unfold Program.globalNamed at h;split at h
 ·rename_i x hx;cases h
  have:g∈(List.range P.globals.size).filter fun g=>(P.globals[g]?).any (·.name==name):=by rw[hx];simp
  simpa using(List.mem_filter.1 this).1
 ·cases h
theorem var_eq {P:Program} {w G:World} (h:∀k,k<P.globals.size→w.heap[k]? = G.heap[k]?) (name:String):w.var? P name=G.var? P name:=by
 unfold World.var?;cases hg:P.globalNamed name with
 | none=>rfl
 | some g=>simp only[Option.bind_some,h g (ab1 hg)]
theorem Vars.facts {w:World} (h:Vars w):Q5 w:=by
 obtain⟨G,hG,hk⟩:=h
 have he:∀name,w.var? Tryz.prog name=G.var? Tryz.prog name:=fun name=>var_eq (fun k hlt=>by obtain⟨o,_,h1,h2⟩:=hk k hlt;rw[h1,h2]) name
 exact⟨by rw[he];exact hG.range,by rw[he];exact hG.acI,by unfold Lib.TabIs;rw[he];exact hG.Tj,by rw[he];exact hG.bruijn⟩
end Go.Proofs.YtoomapkcoibmhaaGreatDoor
end
section
open Go Go.RowKit
namespace Ck
theorem wI (a:Addr) (n:Nat):(a.add n).block=a.block:=by unfold Addr.add;split<;>rfl
theorem Lf (a:Addr) (i j:Nat):(a.add i).add j=a.add (i+j):=by
 unfold Addr.add;by_cases hi:i=0<;>by_cases hj:j=0<;>simp[hi,hj,Nat.add_assoc]
def Reads (w:World) (B size:Nat) (A:Option Addr) (n:Nat) (xs:List Value):Prop :=
 xs.length=n*size∧(0<n→∃ad,A=some ad∧ad.block<B∧∀j u,xs[j]? = some u→w.cell? (ad.add j)=some u)
section
variable {w w':World} {B B' size n:Nat} {A:Option Addr} {xs:List Value}
theorem Reads.at_ {k:Nat} (h:Reads w B 1 A n xs) (hk:k<n):∃ad u,A=some ad∧ad.block<B∧xs[k]? = some u∧w.cell? (ad.add k)=some u:=by
 obtain⟨ad,e,hb,hc⟩:=h.2 (by omega)
 have hl:k<xs.length:=by have:=h.1;omega
 exact⟨ad,xs[k],e,hb,List.getElem?_eq_getElem hl,hc k _ (List.getElem?_eq_getElem hl)⟩
theorem Reads.keep (h:Reads w B size A n xs) (hk:∀p:Addr,p.block<B→w'.cell? p=w.cell? p):Reads w' B size A n xs :=
 ⟨h.1,fun hn=>by
  obtain⟨ad,e,hb,hc⟩:=h.2 hn
  exact⟨ad,e,hb,fun j u hu=>(hk _ (by rw[wI];exact hb)).trans (hc j u hu)⟩⟩
theorem Reads.below (h:Reads w B size A n xs) (hb:Below B w w'):Reads w' B size A n xs:=h.keep fun _ hp=>hb.cell hp
theorem Reads.drew (h:Reads w B size A n xs):Reads w.drew B size A n xs:=h
theorem Reads.drewN (h:Reads w B size A n xs) (k:Nat):Reads (w.drewN k) B size A n xs:=h
theorem Reads.alloc (h:Reads w B size A n xs) (hB:B≤w.heap.size) (o:Obj):Reads (w.alloc o) B size A n xs:=h.keep fun p hp=>World.cell?_alloc_lt w o p (by omega)
theorem Reads.setCell (h:Reads w B size A n xs) {p:Addr} (hB:B≤p.block) (u:Value):Reads (w.setCell p u) B size A n xs :=
 h.keep fun q hq=>World.cell?_setCell_other w p q u (fun e=>by subst e;omega)
theorem Reads.grown (h:Reads w B size A n xs) {row:Option Nat} (hg:w.grownBy w' row) (hB:B≤w.heap.size) (hr:∀g,row=some g→B≤g):Reads w' B size A n xs :=
 h.keep fun p hp=>World.cell?_of_block (hg.block p.block (by omega) (fun e=>by have:=hr _ e.symm;omega))
theorem Reads.cut (h:Reads w B size A n xs) {k cap:Nat} (hk:k≤n) (hc:n≤cap) :
  Reads w B size (if cap=k then A else A.map (·.add (k*size))) (n-k) (xs.drop (k*size)):=by
 refine⟨by rw[List.length_drop,h.1,Nat.sub_mul],fun hn=>?_⟩;obtain⟨ad,rfl,hb,hcell⟩:=h.2 (by omega)
 rw[if_neg (by omega)];refine⟨ad.add (k*size),rfl,by rw[wI];exact hb,fun j u hu=>?_⟩;rw[Lf];exact hcell _ u (by rw[←hu,List.getElem?_drop])
theorem Reads.UR {base:Nat} {e:TypeId} {c:Nat} (h:w.ownsRow base e size (.slice A n c) n xs):Reads w w.heap.size size A n xs:=by
 refine⟨h.1,fun hn=>?_⟩;obtain⟨g,cap,hv,_,hlt⟩:=h.form hn
 have hA:A=some ⟨g,0,none⟩:=by injection hv
 subst hA;exact⟨_,rfl,hlt,h.cells (g:=g) rfl⟩
end
section
variable {P:Program} (w:World)
theorem wJ (base:Nat) (t ty e:TypeId) (i:TypeInfo) (size:Nat) (ht:P.underlying t=some (.slice e)) (hi:P.info? e=some i)
  (v:Value) (n:Nat) (xs:List Value) (hown:w.ownsRow base e size v n xs) (c:Nat):(Builtin.append_ #[t,t] ty #[v,.slice none 0 c]).run P w=.ok v w:=by
 rcases hown.2 with⟨rfl,rfl⟩|⟨g,cap,cur,rfl,_,_,hnc,_⟩
 ·simp[Builtin.append_,run_underlying ht,Go.sizeOf,typeInfo,hi,Builtin.lenOf,Builtin.firstCells]
 ·simp[Builtin.append_,run_underlying ht,Go.sizeOf,typeInfo,hi,Builtin.lenOf,Builtin.firstCells,hnc,storeCells]
theorem Ci (base:Nat) (t ty e:TypeId) (i:TypeInfo) (z:Value) (size bytes:Nat) (ht:P.underlying t=some (.slice e)) (hi:P.info? e=some i) (hz:i.zero=some z)
  (hsize:i.size=size) (hby:i.bytes=bytes) (hzs:z.cells.size=size) (hsz:0<size)
  (v:Value) (n:Nat) (xs:List Value) (hown:w.ownsRow base e size v n xs)
  (B:Nat) (A:Option Addr) (m c:Nat) (news:List Value) (hr:Reads w B size A m news) (h1:∀u∈news,u.oneCell'=true)
  (h63:n+m≤maxLen) (hbytes:(n+m)*bytes≤140737488355328) (hbase:base≤w.heap.size) :
  ∃v' w',(Builtin.append_ #[t,t] ty #[v,.slice A m c]).run P w=.ok v' w'∧w'.ownsRow base e size v' (n+m) (xs++news)∧w.grownBy w' v.ownBlock ∧
   (v'.ownBlock=v.ownBlock∨v'.ownBlock=some w.heap.size):=by
 rcases A with _|ad
 ·have hm:m=0:=by
   rcases Nat.eq_zero_or_pos m with h0|h0
   ·exact h0
   ·obtain⟨ad,h,_⟩:=hr.2 h0
    cases h
  subst hm;have hn:news=[]:=List.eq_nil_of_length_eq_zero (by simpa using hr.1);subst hn;exact⟨v,w,wJ w base t ty e i size ht hi v n xs hown c,by simpa using hown,World.grownBy.refl w _,.inl rfl⟩
 ·have hcells:∀j u,news[j]? = some u→w.cell? (ad.add j)=some u:=by
   intro j u hu;rcases Nat.eq_zero_or_pos m with h0|h0
   ·subst h0;have hn:news=[]:=List.eq_nil_of_length_eq_zero (by simpa using hr.1);subst hn;simp at hu
   ·obtain⟨ad',h,_,hc⟩:=hr.2 h0
    injection h with h;subst h;exact hc j u hu
  obtain⟨v',w',hrun,h2,h3,_,h5⟩:=run_append_own_at (P:=P) w base t ty e i z size bytes ht hi hz hsize hby hzs hsz v n xs hown ad m c news hr.1 hcells h1 h63 hbytes hbase
  exact⟨v',w',hrun,h2,h3,h5⟩
theorem Du {o:Oper} {a:Act} {K:Act→World→Prop} {Q:Exit→Act→World→Prop} (s x:Operand) (t:TypeId)
  (ho:o.op=.call { callee:=.builtin .append,args:=#[s,x],argTypes:=#[t,t] })
  (base:Nat) (e:TypeId) (i:TypeInfo) (z:Value) (size bytes:Nat) (ht:P.underlying t=some (.slice e)) (hi:P.info? e=some i) (hz:i.zero=some z)
  (hsize:i.size=size) (hby:i.bytes=bytes) (hzs:z.cells.size=size) (hsz:0<size)
  (v:Value) (n:Nat) (xs:List Value) (hs:a.eval s=v) (hown:w.ownsRow base e size v n xs)
  (B:Nat) (A:Option Addr) (m c:Nat) (news:List Value) (hx:a.eval x=.slice A m c) (hr:Reads w B size A m news) (h1:∀u∈news,u.oneCell'=true)
  (h63:n+m≤maxLen) (hbytes:(n+m)*bytes≤140737488355328) (hbase:base≤w.heap.size)
  (h:∀v' w',w'.ownsRow base e size v' (n+m) (xs++news)→w.grownBy w' v.ownBlock→(v'.ownBlock=v.ownBlock∨v'.ownBlock=some w.heap.size)→K (a.put o.dst v') w'):o.wp P a w K Q:=by
 obtain⟨v',w',hrun,h2,h3,h4⟩:=Ci (P:=P) w base t o.type e i z size bytes ht hi hz hsize hby hzs hsz v n xs hown B A m c news hr h1 h63 hbytes hbase
 unfold Oper.wp execOp;simp only[ho,resolve,invoke,builtin,Sem.run_bind,Sem.run_pure,Result.andThen_ok,List.map_toArray,List.map_cons,List.map_nil,hs,hx,hrun];exact h v' w' h2 h3 h4
theorem wK {ops:Array Oper} {rest:List Oper} {o:Oper} {a:Act} {Q:Exit→Act→World→Prop} (hgd:o.guard=none) (s x:Operand) (t:TypeId)
  (ho:o.op=.call { callee:=.builtin .append,args:=#[s,x],argTypes:=#[t,t] })
  (base:Nat) (e:TypeId) (i:TypeInfo) (z:Value) (size bytes:Nat) (ht:P.underlying t=some (.slice e)) (hi:P.info? e=some i) (hz:i.zero=some z)
  (hsize:i.size=size) (hby:i.bytes=bytes) (hzs:z.cells.size=size) (hsz:0<size)
  (v:Value) (n:Nat) (xs:List Value) (hs:a.eval s=v) (hown:w.ownsRow base e size v n xs)
  (B:Nat) (A:Option Addr) (m c:Nat) (news:List Value) (hx:a.eval x=.slice A m c) (hr:Reads w B size A m news) (h1:∀u∈news,u.oneCell'=true)
  (h63:n+m≤maxLen) (hbytes:(n+m)*bytes≤140737488355328) (hbase:base≤w.heap.size)
  (h:∀v' w',w'.ownsRow base e size v' (n+m) (xs++news)→w.grownBy w' v.ownBlock→(v'.ownBlock=v.ownBlock∨v'.ownBlock=some w.heap.size)→wpList P ops Q rest (a.put o.dst v') w'):wpList P ops Q (o::rest) a w :=
 wpList_plain hgd fun _ hK=>Du w s x t ho base e i z size bytes ht hi hz hsize hby hzs hsz v n xs hs hown B A m c news hx hr h1 h63 hbytes hbase fun v' w' h2 h3 h4=>hK _ _ (h v' w' h2 h3 h4)
end
end Ck
end
section
open Go
namespace Ck
theorem Dv {P:Program} {row:String} {args:Array Value} {w:World} {R:Value→World→Prop} {l n:Nat} (h:Rows P row args w R):RowsIn (Fence.wide.inRound l) n P row args w R :=
 fun c cs _=>let ⟨v,w',r,s⟩:=h c cs;⟨v,w',r,stepsIn_wide.2 s⟩
theorem I6 {P:Program} {o:Oper} {a:Act} {w:World} {l n:Nat} {K:Act→World→Prop} {Q:Exit→Act→World→Prop} (hd:∀c,o.op≠.defer c)
  (h:o.wp P a w K Q):o.wpIn (Fence.wide.inRound l) n P a w K Q:=by
 unfold Oper.wp at h;unfold Oper.wpIn;refine⟨fun _ _=>trivial,?_⟩;rw[show(Fence.wide.inRound l).round=some l from rfl,Oper.semAt_some l _ _ hd];generalize (execOp a.eval o).run P w=r at h;cases r with
 | ok x w' =>
  cases x<;>simp only[Oper.upon,Oper.uponIn]at h ⊢ <;> first|exact h|skip
  ·exact⟨fun hx=>(by cases hx),CallsIn.inRound l (callsIn_wide.2 h)⟩
  ·exact⟨fun hx=>(by cases hx),Dv h⟩
 | halt x w'=>cases x<;>simp only[Oper.upon,Oper.uponIn]at h ⊢ <;> exact h
theorem wL {P:Program} {md:Region.Mode} {ops:Array Oper} {Q:Exit→Act→World→Prop} {l n:Nat} (hd:∀(i:Nat) (o:Oper),ops[i]? = some o→∀c,o.op≠.defer c)
  (ho:¬LetsOut Q):∀(fuel:Nat) (listed:Array Bool) (a:Act) (w:World),wpAny P md ops Q fuel listed a w→wpAnyIn (Fence.wide.inRound l) n P md ops Q fuel listed a w
 | 0,_,_,_,h=>h
 | fuel+1,listed,a,w,h=>⟨h.1,fun i hi=>by
   have hh:=h.2 i hi;have ih:=wL (P:=P) (md:=md) (l:=l) (n:=n) hd ho fuel (listed.setIfInBounds i true);unfold wpOp at hh;unfold wpOpIn;cases he:ops[i]? with
   | none=>simp only[he]at hh ⊢;exact ih _ _ hh
   | some o =>
    simp only[he]at hh ⊢;by_cases hw:Region.wanted o (yielded ops a.tmps)=true
    ·rw[if_pos hw]at hh ⊢
     rcases hh with hh|hh
     ·exact I6 (l:=l) (n:=n) (hd i o he) (Oper.wp_mono ih hh)
     ·exact absurd hh.2 ho
    ·rw[if_neg hw]at hh ⊢
     exact⟨fun _ _=>trivial,ih _ _ hh⟩⟩
def One (A:Act) (W:World):Exit→Act→World→Prop:=fun e a w=>e=.normal∧a=A∧w=W
def Mk (ops:Array Oper):Bool:=ops.all fun o=>match o.op with | .defer _=>false|_=>true
theorem Ga {ops:Array Oper} (h:Mk ops=true) (i:Nat) (o:Oper) (ho:ops[i]? = some o) (c:Call):o.op≠.defer c:=by
 intro hc;have h1:=Array.all_eq_true_iff_forall_mem.1 h o (Array.mem_of_getElem? ho);rw[hc]at h1
 cases h1
theorem dY {P:Program} {ops:Array Oper} {Q:Exit→Act→World→Prop} {l n id:Nat} {a A:Act} {w W:World} {S:World→Prop} (hm:P.follows .mixedOrders=true) (hd:Mk ops=true)
  (h:wpAnyH P .any ops (One A W) S ops.size (Array.replicate ops.size false) a w.drew) (hK:Q .normal A W):(Code.region id ops true).wpIn (Fence.wide.inRound l) n P Q a w:=by
 refine wpIn_mono (wpIn_region_any hm (wL (l:=l) (n:=n) (Ga hd) ?_ _ _ _ _ (wpAny_of_held _ _ _ _ h))) ?_
 ·rintro⟨a,w,h1,_⟩;cases h1
 ·rintro e a w ⟨rfl,rfl,rfl⟩;exact hK
theorem wp_append_run {P:Program} {o:Oper} {a:Act} {w w':World} {K:Act→World→Prop} {Q:Exit→Act→World→Prop} (s x:Operand) (t:TypeId)
  (ho:o.op=.call { callee:=.builtin .append,args:=#[s,x],argTypes:=#[t,t] }) {v y v':Value} (hs:a.eval s=v) (hx:a.eval x=y)
  (hrun:(Builtin.append_ #[t,t] o.type #[v,y]).run P w=.ok v' w') (hK:K (a.put o.dst v') w'):Oper.wp P o a w K Q:=by
 unfold Oper.wp;simp[execOp,ho,resolve,invoke,builtin,hs,hx,hrun,Result.andThen];exact hK
end Ck
end
section
namespace Go.Proofs
open Go.Shelf
def Tryz.keysA_ren:Go.Shelf.Ren:=⟨fun|7=>22|10=>35|n=>n,fun|23=>51|26=>3|3=>3|28=>48|0=>0|27=>47|33=>32|4=>4|n=>n,fun|n=>n⟩
theorem Tryz.keysA:Go.Proofs.SlLaysZI.n7 Tryz.prog Tryz.keysA_ren:={
 mixed:=by kernel_rfl
 f7:=⟨Tryz.f22.name,by decide,Tryz.func22.trans (congrArg some (by kernel_rfl))⟩
 f10:=⟨Tryz.f35.name,by decide,Tryz.func35.trans (congrArg some (by kernel_rfl))⟩
 t0:=Tryz.underlying0
 a0:=Tryz.isAgg0
 z0:=Tryz.sizeOf0
 v0:=Tryz.zeroValue0
 t4:=Tryz.underlying4
 a4:=Tryz.isAgg4
 z4:=Tryz.sizeOf4
 v4:=Tryz.zeroValue4
 t23:=Tryz.underlying51
 a23:=Tryz.isAgg51
 z23:=Tryz.sizeOf51
 v23:=Tryz.zeroValue51
 t26:=Tryz.underlying3
 a26:=Tryz.isAgg3
 z26:=Tryz.sizeOf3
 v26:=Tryz.zeroValue3
 t27:=Tryz.underlying47
 a27:=Tryz.isAgg47
 z27:=Tryz.sizeOf47
 v27:=Tryz.zeroValue47
 t28:=Tryz.underlying48
 a28:=Tryz.isAgg48
 z28:=Tryz.sizeOf48
 v28:=Tryz.zeroValue48
 t33:=Tryz.underlying32
 a33:=Tryz.isAgg32
 z33:=Tryz.sizeOf32
 v33:=Tryz.zeroValue32 }
def Tryz.sortedA_ren:Go.Shelf.Ren:=⟨fun|6=>21|8=>33|9=>34|11=>65|13=>67|12=>66|23=>93|24=>94|14=>84|15=>85|16=>86|17=>87|18=>88|19=>89|20=>90|21=>91|22=>92|25=>136|26=>137|27=>138|28=>139|29=>140|30=>141|31=>179|n=>n,fun|26=>3|28=>48|24=>36|0=>0|3=>3|37=>106|48=>143|50=>38|4=>4|40=>137|39=>136|45=>71|5=>5|9=>9|51=>175|55=>178|57=>216|58=>217|33=>32|n=>n,fun|n=>n⟩
theorem Tryz.sortedA:Go.Proofs.SlLaysZI.n6 Tryz.prog Tryz.sortedA_ren:={
 mixed:=by kernel_rfl
 f6:=⟨Tryz.f21.name,by decide,Tryz.func21.trans (congrArg some (by kernel_rfl))⟩
 f8:=⟨Tryz.f33.name,by decide,Tryz.func33.trans (congrArg some (by kernel_rfl))⟩
 f11:=⟨Tryz.f65.name,by decide,Tryz.func65.trans (congrArg some (by kernel_rfl))⟩
 t0:=Tryz.underlying0
 a0:=Tryz.isAgg0
 z0:=Tryz.sizeOf0
 v0:=Tryz.zeroValue0
 t24:=Tryz.underlying36
 a24:=Tryz.isAgg36
 z24:=Tryz.sizeOf36
 v24:=Tryz.zeroValue36
 t26:=Tryz.underlying3
 a26:=Tryz.isAgg3
 z26:=Tryz.sizeOf3
 v26:=Tryz.zeroValue3
 t28:=Tryz.underlying48
 a28:=Tryz.isAgg48
 z28:=Tryz.sizeOf48
 v28:=Tryz.zeroValue48
 i26:=by kernel_rfl }
def Tryz.sortA_ren:Go.Shelf.Ren:=⟨fun|5=>34|8=>67|7=>66|19=>93|20=>94|10=>84|11=>85|12=>86|13=>87|14=>88|15=>89|16=>90|17=>91|18=>92|30=>136|31=>137|32=>138|33=>139|34=>140|35=>141|40=>179|n=>n,fun|23=>36|25=>3|3=>3|32=>106|22=>36|0=>0|44=>143|46=>38|4=>4|36=>137|35=>136|41=>71|5=>5|9=>9|53=>175|57=>178|63=>216|64=>217|n=>n,fun|n=>n⟩
theorem Tryz.sortA:Go.Proofs.SlLaysM.n5 Tryz.prog Tryz.sortA_ren:={
 mixed:=by kernel_rfl
 f5:=⟨Tryz.f34.name,by decide,Tryz.func34.trans (congrArg some (by kernel_rfl))⟩
 f7:=⟨Tryz.f66.name,by decide,Tryz.func66.trans (congrArg some (by kernel_rfl))⟩
 f8:=Tryz.func67.trans (congrArg some (by kernel_rfl))
 f10:=⟨Tryz.f84.name,by decide,Tryz.func84.trans (congrArg some (by kernel_rfl))⟩
 f11:=⟨Tryz.f85.name,by decide,Tryz.func85.trans (congrArg some (by kernel_rfl))⟩
 f12:=⟨Tryz.f86.name,by decide,Tryz.func86.trans (congrArg some (by kernel_rfl))⟩
 f13:=⟨Tryz.f87.name,by decide,Tryz.func87.trans (congrArg some (by kernel_rfl))⟩
 f14:=⟨Tryz.f88.name,by decide,Tryz.func88.trans (congrArg some (by kernel_rfl))⟩
 f15:=⟨Tryz.f89.name,by decide,Tryz.func89.trans (congrArg some (by kernel_rfl))⟩
 f16:=⟨Tryz.f90.name,by decide,Tryz.func90.trans (congrArg some (by kernel_rfl))⟩
 f17:=⟨Tryz.f91.name,by decide,Tryz.func91.trans (congrArg some (by kernel_rfl))⟩
 f18:=⟨Tryz.f92.name,by decide,Tryz.func92.trans (congrArg some (by kernel_rfl))⟩
 f19:=Tryz.func93.trans (congrArg some (by kernel_rfl))
 f20:=Tryz.func94.trans (congrArg some (by kernel_rfl))
 f30:=⟨Tryz.f136.name,by decide,Tryz.func136.trans (congrArg some (by kernel_rfl))⟩
 f31:=Tryz.func137.trans (congrArg some (by kernel_rfl))
 f32:=Tryz.func138.trans (congrArg some (by kernel_rfl))
 f33:=⟨Tryz.f139.name,by decide,Tryz.func139.trans (congrArg some (by kernel_rfl))⟩
 f34:=⟨Tryz.f140.name,by decide,Tryz.func140.trans (congrArg some (by kernel_rfl))⟩
 f35:=⟨Tryz.f141.name,by decide,Tryz.func141.trans (congrArg some (by kernel_rfl))⟩
 f40:=⟨Tryz.f179.name,by decide,Tryz.func179.trans (congrArg some (by kernel_rfl))⟩
 t0:=Tryz.underlying0
 a0:=Tryz.isAgg0
 z0:=Tryz.sizeOf0
 v0:=Tryz.zeroValue0
 t3:=Tryz.underlying3
 a3:=Tryz.isAgg3
 z3:=Tryz.sizeOf3
 v3:=Tryz.zeroValue3
 t4:=Tryz.underlying4
 a4:=Tryz.isAgg4
 z4:=Tryz.sizeOf4
 v4:=Tryz.zeroValue4
 t5:=Tryz.underlying5
 a5:=Tryz.isAgg5
 z5:=Tryz.sizeOf5
 v5:=Tryz.zeroValue5
 t9:=Tryz.underlying9
 a9:=Tryz.isAgg9
 z9:=Tryz.sizeOf9
 v9:=Tryz.zeroValue9
 t22:=Tryz.underlying36
 a22:=Tryz.isAgg36
 z22:=Tryz.sizeOf36
 v22:=Tryz.zeroValue36
 t23:=Tryz.underlying36
 a23:=Tryz.isAgg36
 z23:=Tryz.sizeOf36
 v23:=Tryz.zeroValue36
 t25:=Tryz.underlying3
 a25:=Tryz.isAgg3
 z25:=Tryz.sizeOf3
 v25:=Tryz.zeroValue3
 t32:=Tryz.underlying106
 a32:=Tryz.isAgg106
 z32:=Tryz.sizeOf106
 v32:=Tryz.zeroValue106
 t35:=Tryz.underlying136
 a35:=Tryz.isAgg136
 z35:=Tryz.sizeOf136
 v35:=Tryz.zeroValue136
 t36:=Tryz.underlying137
 a36:=Tryz.isAgg137
 z36:=Tryz.sizeOf137
 v36:=Tryz.zeroValue137
 t41:=Tryz.underlying71
 a41:=Tryz.isAgg71
 z41:=Tryz.sizeOf71
 v41:=Tryz.zeroValue71
 t44:=Tryz.underlying143
 a44:=Tryz.isAgg143
 z44:=Tryz.sizeOf143
 v44:=Tryz.zeroValue143
 t46:=Tryz.underlying38
 a46:=Tryz.isAgg38
 z46:=Tryz.sizeOf38
 v46:=Tryz.zeroValue38
 t53:=Tryz.underlying175
 a53:=Tryz.isAgg175
 z53:=Tryz.sizeOf175
 v53:=Tryz.zeroValue175
 t57:=Tryz.underlying178
 a57:=Tryz.isAgg178
 z57:=Tryz.sizeOf178
 v57:=Tryz.zeroValue178
 t63:=Tryz.underlying216
 a63:=Tryz.isAgg216
 z63:=Tryz.sizeOf216
 v63:=Tryz.zeroValue216
 t64:=Tryz.underlying217
 a64:=Tryz.isAgg217
 z64:=Tryz.sizeOf217
 v64:=Tryz.zeroValue217 }
end Go.Proofs
end
