/- A part of the proof. -/
import Derived.RegionDies
import Derived.Deep.DeepCutAuto
import Derived.Test.YtoomapkcoibmhaaGreatDoorQ2
import Derived.Test.YtoomapkcoibmhaaGreatDoorQ8
set_option maxRecDepth 100000
set_option maxHeartbeats 12800000
set_option linter.all false
section
open Go Go.Proofs Go.RowKit Ck
namespace Go.Proofs.YtoomapkcoibmhaaGreatDoor
def cK (l:List Bytes):List Value:=l.map fun x=>.string ⟨x.toArray⟩
theorem vQ (a b:List Bytes):cK (a++b)=cK a++cK b:=by simp[cK]
theorem Tryz.infoStr:(Tryz.prog.info? 9).map (fun i=>(i.zero,i.size,i.bytes))=some (some (.string ⟨#[]⟩),1,16):=by kernel_rfl
def TY (B:Nat) (w:World) (v:Value) (l:List Ck.Node):Prop :=
 ∃x c,v=.slice x l.length c∧(l≠[]→∃g,x=some ⟨g,0,none⟩∧g<B∧g<w.heap.size∧∀i n,l[i]? = some n→∀k,k<6→w.cell? ⟨g,i*6+k,none⟩=(tZ n)[k]?)
theorem TY.below {B:Nat} {w w':World} {v:Value} {l:List Ck.Node} (h:TY B w v l) (hb:Below B w w'):TY B w' v l:=by
 obtain⟨x,c,hv,h⟩:=h
 refine⟨x,c,hv,fun hn=>?_⟩;obtain⟨g,h1,h2,h3,h4⟩:=h hn
 exact⟨g,h1,h2,Nat.lt_of_lt_of_le h3 hb.size,fun i n hi k hk=>(hb.cell (p:=⟨g,i*6+k,none⟩) h2).trans (h4 i n hi k hk)⟩
theorem Below.aC {B:Nat} {w w':World} (h:Fr [] w w') (hB:B≤w.heap.size):Below B w w':=h.below.mono hB
theorem _root_.Ck.Fr.LD {b:Nat} {w w':World} (h:Fr [b] w w') (hb:b<w.heap.size):Below b w w' :=
 ⟨h.os,h.tape,h.output,h.size,fun k hk=>h.block k (by omega) (by simp;omega)⟩
theorem Vars.below {B:Nat} {w w':World} (h:Vars w) (hb:Below B w w') (hB:Tryz.prog.globals.size≤B):Vars w':=by
 obtain⟨G,hG,hk⟩:=h
 refine⟨G,hG,fun k hlt=>?_⟩;obtain⟨o,h0,h1,h2⟩:=hk k hlt
 exact⟨o,h0,h1,(hb.block k (by omega)).trans h2⟩
def su (bp:Nat) (w:World):Option Nat:=(w.cell? ⟨bp,2,none⟩).bind Value.ownBlock
theorem nW {bp:Nat} {w:World} {c:Array Value} {T:TypeId} {x y vt:Value} (h:au w bp #[x,y,vt] T):su bp w=vt.ownBlock:=by
 unfold su;rw[h.rules.1 2];rfl
structure Pf (bp:Nat) (w w':World):Prop where
 fr:Fr (bp::(su bp w).toList) w w'
 row:∀k,su bp w'=some k→su bp w=some k∨w.heap.size≤k
theorem Pf.refl (bp:Nat) (w:World):Pf bp w w:=⟨Fr.refl _ _,fun _ h=>.inl h⟩
theorem Pf.trans {bp:Nat} {a b c:World} (h:Pf bp a b) (k:Pf bp b c):Pf bp a c :=
 ⟨h.fr.then k.fr (fun x hx=>by
  rcases List.mem_cons.1 hx with rfl|hx
  ·exact .inl (by simp)
  ·have hx:su bp b=some x:=by simpa using hx
   rcases h.row x hx with h1|h1
   ·exact .inl (by simp[h1])
   ·exact .inr h1),
  fun x hx=>by
  rcases k.row x hx with h1|h1
  ·exact h.row x h1
  ·exact .inr (Nat.le_trans h.fr.size h1)⟩
theorem Pf.aC {bp:Nat} {w w':World} (h:Fr [] w w') (hb:bp<w.heap.size):Pf bp w w' :=
 ⟨h.sub (by simp),fun k hk=>.inl (by unfold su at hk ⊢;rw[h.nQ (p:=⟨bp,2,none⟩) hb (by simp)]at hk;exact hk)⟩
structure zm where
 l:List Ck.Node
 vl:Value
 bp:Nat
structure QS (S:zm) (a:Nat) (toks:List Bytes) (w:World):Prop where
 ex:∃vt,au w S.bp #[S.vl,.int .i64 a,vt] 94∧w.ownsRow (S.bp+1) 9 1 vt toks.length (cK toks)
 row:TY S.bp w S.vl S.l
 lim:S.l.length≤1099511627776
 ha:a≤S.l.length
 glob:Tryz.prog.globals.size≤S.bp
 vars:Vars w
 ok:∀n∈S.l,uQ n
 room:tw toks≤wV
theorem QS.lt {S:zm} {a:Nat} {toks:List Bytes} {w:World} (h:QS S a toks w):S.bp<w.heap.size:=by
 obtain⟨vt,h1,_⟩:=h.ex
 exact h1.lt
theorem QS.fr {S:zm} {a:Nat} {toks:List Bytes} {w w':World} (h:QS S a toks w) (hf:Fr [] w w'):QS S a toks w':=by
 obtain⟨vt,h1,h2⟩:=h.ex
 exact⟨⟨vt,h1.fr hf (by simp),aF h2 hf (by simp)⟩,h.row.below (Below.aC hf (Nat.le_of_lt h.lt)),h.lim,h.ha,h.glob,h.vars.fr hf (by simp),h.ok,h.room⟩
theorem QS.Vy {S:zm} {a:Nat} {toks:List Bytes} {w:World} (h:QS S a toks w):∀k,su S.bp w=some k→S.bp+1≤k∧∃c,au w k c 9:=by
 obtain⟨vt,h1,h2⟩:=h.ex
 intro k hk;rw[nW h1 (c:=#[])]at hk
 refine⟨(h2.lt k hk).1,?_⟩;rcases h2.2 with⟨rfl,_⟩|⟨g,cap,cur,rfl,_,hg,_⟩
 ·cases hk
 ·obtain rfl:g=k:=by simpa[Value.ownBlock]using hk
  exact⟨_,hg⟩
theorem QS.low {S:zm} {a:Nat} {toks:List Bytes} {w w':World} (h:QS S a toks w) (hf:Pf S.bp w w'):Below S.bp w w' :=
 ⟨hf.fr.os,hf.fr.tape,hf.fr.output,hf.fr.size,fun k hk=>hf.fr.block k (by have:=h.lt;omega) (fun hm=>by
  rcases List.mem_cons.1 hm with e|hm
  ·omega
  ·have:=(h.Vy k (by simpa using hm)).1;omega)⟩
theorem QS.bI {S:zm} {a:Nat} {toks:List Bytes} {w w':World} (h:QS S a toks w) (hf:Pf S.bp w w') {b:Nat} {c:Array Value} {T:TypeId} (hB:au w b c T) (h1:T≠9) (h2:b≠S.bp):au w' b c T :=
 (hf.fr.block b hB.lt (fun hm=>by
  rcases List.mem_cons.1 hm with e|hm
  ·exact h2 e
  ·obtain⟨_,d,hd⟩:=h.Vy b (by simpa using hm)
   have:=hB.symm.trans hd
   simp at this
   exact h1 this.2)).trans hB
theorem QS.alloc {S:zm} {a:Nat} {toks:List Bytes} {w:World} (h:QS S a toks w) (o:Obj):QS S a toks (w.alloc o):=h.fr ((Fr.refl _ _).alloc o)
def Vz:Ending:=.panicked [{ v:=.iface 91 (.agg #[]),recovered:=false }]
def aI {α:Type} (S:zm) (w:World) (val:α→Value) (r:Option (α × (List Ck.Node × List Bytes))) (e:Ending) (w':World):Prop :=
 (r=none∧e=Vz∧Pf S.bp w w')∨(∃y a toks,r=some (y,(S.l.drop a,toks))∧e=.returned (val y)∧QS S a toks w'∧Pf S.bp w w')
abbrev MP {α:Type} (fn:Nat) (args:List Value) (S:zm) (val:α→Value) (m:Pr α):Prop:=∀(a:Nat) (toks:List Bytes) (w:World) (r:Option (α × (List Ck.Node × List Bytes))),QS S a toks w→Hid (m (S.l.drop a,toks)=some r) →
 Calls Tryz.prog fn (List.toArray (.pointer (some ⟨S.bp,0,none⟩)::args)) w (aI S w val r)
def aY (_:Unit):Value:=.tuple #[]
abbrev dG (fn:Nat) (S:zm) (m:Pr Unit):Prop:=MP fn [] S aY m
def Ah (n:Ck.Node):Value:=.agg #[.int .i64 n.kind,.int .i64 n.at',.int .i64 n.kids,.string ⟨n.text.toArray⟩,.int .i64 n.int,.int .u64 n.bits]
def Fb (s:Bytes):Value:=.string ⟨s.toArray⟩
theorem Ti {α β:Type} {x:Pr α} {f:α→Pr β} {s:List Ck.Node × List Bytes} {r:Option (β × (List Ck.Node × List Bytes))} (h:Hid ((x >>= f) s=some r)) :
  (x s=some none∧r=none)∨∃y s',x s=some (some (y,s'))∧Hid (f y s'=some r):=by
 have h:=h.out;rw[Pr.bind_eq]at h
 unfold Pr.bind at h;split at h
 ·cases h
 ·rename_i he;cases h;exact .inl ⟨he,rfl⟩
 ·rename_i y s' he;exact .inr ⟨y,s',he,h⟩
section
variable {S:zm} {a:Nat} {toks:List Bytes} {w:World}
theorem QS.value (h:QS S a toks w):∃x c,S.vl=.slice x S.l.length c:=by
 obtain⟨x,c,h1,_⟩:=h.row
 exact⟨x,c,h1⟩
theorem QS.open (h:QS S a toks w):∃x c vt,au w S.bp #[.slice x S.l.length c,.int .i64 a,vt] 94∧w.ownsRow (S.bp+1) 9 1 vt toks.length (cK toks)∧S.vl=.slice x S.l.length c:=by
 obtain⟨vt,h1,h2⟩:=h.ex
 obtain⟨x,c,hv⟩:=h.value
 exact⟨x,c,vt,hv ▸ h1,h2,hv⟩
theorem iX (W:World):Calls Tryz.prog 48 #[.bool true] W fun e w'=>e=.returned (.tuple #[])∧W=w':=by
 go_enter Tryz.func48,Tryz.ntmps48;go_wp2
 go_end0
 exact⟨rfl,rfl⟩
theorem jE (W:World):Calls Tryz.prog 48 #[.bool false] W fun e w'=>e=.panicked [{ v:=.iface 91 (.agg #[]),recovered:=false }]∧W=w':=by
 go_enter Tryz.func48,Tryz.ntmps48;go_wp2;exact⟨rfl,rfl,rfl⟩
theorem GJ (l:List Bytes):l.length*16≤tw l:=by
 induction l with
 | nil=>simp
 | cons x l ih=>rw[pJ,List.length_cons];omega
theorem O8 (h:QS S a toks w) (v:Value) (l:List Bytes) (hv:bO w v l) (hl:l≠[]) (hw:tw (toks++l)≤wV) :
  Calls Tryz.prog 76 #[.pointer (some ⟨S.bp,0,none⟩),v] w fun e w'=>e=.returned (.tuple #[])∧QS S a (toks++l) w'∧Pf S.bp w w':=by
 rcases hv with⟨rfl,_⟩|⟨b,c,rfl,hb,hcell⟩
 ·exact absurd rfl hl
 obtain⟨x,cx,vt,hB,hown,hvl⟩:=h.open
 have hcnt:=GJ (toks++l);rw[List.length_append]at hcnt
 have hw0:=hw;unfold wV at hw
 have hnews:∀j u,(cK l)[j]? = some u→w.cell? ((⟨b,0,none⟩:Addr).add j)=some u:=fun j u hj=>by
  rw[add0];have hj':j<l.length:=by have:=(List.getElem?_eq_some_iff.1 hj).1;simpa[cK]using this
  rw[hcell j hj'];simp[cK,hj']at hj
  rw[←hj];simp[List.getD,hj']
 obtain⟨kc,kz,aH,kb⟩:=hB.rules
 have H:=Lib.hid h;obtain⟨i0,hi,hz0,hz1,hz2⟩:=info_parts Tryz.infoStr
 have hlt:=hown.lt;have HV:=Lib.hid hvl;have HN:=Lib.hid hnews;have HB1:Hid (toks.length+l.length≤maxLen):=by show _≤_;simp[maxLen];omega
 have HB2:Hid ((toks.length+l.length)*16≤140737488355328):=by show _≤_;omega
 have HW:Hid (tw (toks++l)≤wV):=hw0;clear h hcell hvl hnews hw hcnt hw0;go_enter Tryz.func76,Tryz.ntmps76
 go_wp2_with (first|(at_builtin;refine wpList_append_lies _ rfl _ _ 67 rfl (S.bp+1) 9 i0 (.string ⟨#[]⟩) 1 16 Tryz.underlying67 hi hz0 hz1 hz2 rfl (by decide) vt toks.length (cK toks) rfl hown ⟨b,0,none⟩ l.length c (cK l) rfl (by simp[cK]) HN.out (by simp[cK,Value.oneCell']) (List.length_pos_iff.2 hl) HB1.out HB2.out (by omega) _ rfl ?_;intro g' cap' w1 hown1 hg1 RD hlt1;obtain⟨qc,qz,bS,qb⟩:=(hB.grown hg1 (fun e=>by have:=(hlt _ e).1;omega)).rules))
 go_end0
 have hfr:Below S.bp w w1:=(Below.refl _ _).grown hg1 (by omega) (fun k e=>by have:=(hlt k e).1;omega);have hfr2:Below S.bp w (Ck.blk w1 S.bp #[.slice x S.l.length cx,.int .i64 a,.slice (some ⟨g',0,none⟩) (toks.length+l.length) cap'] 94):=⟨hfr.os,hfr.tape,hfr.output,by rw[aB];exact hfr.size,fun k hk=>(bH (by omega)).trans (hfr.block k hk)⟩
 have hpf:Pf S.bp w (Ck.blk w1 S.bp #[.slice x S.l.length cx,.int .i64 a,.slice (some ⟨g',0,none⟩) (toks.length+l.length) cap'] 94):=by
  refine⟨?_,fun k hk=>?_⟩
  ·rw[nW hB (c:=#[])];exact(((Fr.refl _ _).grown hg1 (fun k e=>.inl (by simp[e])))).blk (.inl (by simp)) _ _
  ·rw[nW (au.blk qb) (c:=#[])]at hk
   obtain rfl:g'=k:=by simpa[Value.ownBlock]using hk
   rw[nW hB (c:=#[])];rcases RD with h1|h1
   ·exact .inl h1
   ·exact .inr (by omega)
 refine⟨rfl,QS.mk ⟨.slice (some ⟨g',0,none⟩) (toks.length+l.length) cap',?_,?_⟩ (H.out.row.below hfr2) H.out.lim H.out.ha H.out.glob (H.out.vars.below hfr2 H.out.glob) H.out.ok HW.out,hpf⟩
 ·rw[HV.out];exact au.blk qb
 ·rw[vQ,List.length_append];exact eB hown1 (by omega)
end
theorem O9 (W:World):Calls Tryz.prog 48 #[.bool true] W fun e w'=>e=.returned (.tuple #[])∧w'=W:=(iX W).mono fun _ _ h=>⟨h.1,h.2.symm⟩
theorem iY (b:Bool) (W:World):Calls Tryz.prog 48 #[.bool b] W fun e w'=>(b=true∧e=.returned (.tuple #[])∧W=w')∨(b=false∧e=.panicked [{ v:=.iface 91 (.agg #[]),recovered:=false }]∧W=w'):=by
 cases b
 ·exact(jE W).mono fun _ _ h=>.inr ⟨rfl,h⟩
 ·exact(iX W).mono fun _ _ h=>.inl ⟨rfl,h⟩
def nk (l:List Ck.Node):Int:=match l with | []=>0|n::_=>n.kind
section
variable {S:zm} {a:Nat} {toks:List Bytes} {w:World}
theorem QS.node (h:QS S a toks w) (hl:a<S.l.length):∃g c vt n,au w S.bp #[.slice (some ⟨g,0,none⟩) S.l.length c,.int .i64 a,vt] 94∧S.vl=.slice (some ⟨g,0,none⟩) S.l.length c ∧
  S.l.drop a=n::S.l.drop (a+1)∧g<S.bp∧g<w.heap.size ∧
  w.cell? ⟨g,a*6,none⟩=some (.int .i64 n.kind)∧w.cell? ⟨g,a*6+1,none⟩=some (.int .i64 n.at')∧w.cell? ⟨g,a*6+2,none⟩=some (.int .i64 n.kids) ∧
  w.cell? ⟨g,a*6+3,none⟩=some (.string ⟨n.text.toArray⟩)∧w.cell? ⟨g,a*6+4,none⟩=some (.int .i64 n.int)∧w.cell? ⟨g,a*6+5,none⟩=some (.int .u64 n.bits)∧w.ownsRow (S.bp+1) 9 1 vt toks.length (cK toks):=by
 obtain⟨x,c,vt,h1,h2,h3⟩:=h.open
 obtain⟨x',c',e,h4⟩:=h.row
 obtain⟨g,hx,hg,hg2,hc⟩:=h4 (by intro e;rw[e]at hl;simp at hl)
 rw[h3]at e
 injection e with e1 e2 e3;subst e1;subst hx;subst e3;have hn:S.l[a]? = some S.l[a]:=by simp[hl]
 refine⟨g,_,vt,S.l[a],h1,h3,List.drop_eq_getElem_cons hl,hg,hg2,hc a _ hn 0 (by omega),hc a _ hn 1 (by omega),hc a _ hn 2 (by omega),hc a _ hn 3 (by omega),hc a _ hn 4 (by omega),hc a _ hn 5 (by omega),h2⟩
theorem QS.go (h:QS S a toks w) {vt:Value} (ho:w.ownsRow (S.bp+1) 9 1 vt toks.length (cK toks)) {W:World} (hf:Fr [S.bp] w W)
  (hB:au W S.bp #[S.vl,.int .i64 ((a:Int)+1),vt] 94) (hl:a<S.l.length):QS S (a+1) toks W :=
 ⟨⟨vt,hB,aF ho hf (by simp)⟩,h.row.below (hf.LD h.lt),h.lim,hl,h.glob,h.vars.below (hf.LD h.lt) h.glob,h.ok,h.room⟩
theorem xu (h:QS S a toks w):Calls Tryz.prog 74 #[.pointer (some ⟨S.bp,0,none⟩)] w fun e w'=>e=.returned (.int .i64 (nk (S.l.drop a)))∧Fr [] w w':=by
 by_cases hl:a<S.l.length
 ·obtain⟨g,c,vt,n,hB,_,hd,hgb,hgw,k0,_⟩:=h.node hl
  have HR:Hid (nk (S.l.drop a)=n.kind):=by show _=_;rw[hd];rfl
  have hlim:S.l.length≤1099511627776:=h.lim;obtain⟨kc,kz,aH,kb⟩:=hB.rules
  generalize S.l.length=m at *;have VA:(m:Int)≤9223372036854775807:=by omega
  clear hlim hd h hB;go_enter Tryz.func74,Tryz.ntmps74;go_wp2
  go_quiet (fail)
  go_wp2
  go_quiet (fail)
  go_wp2;go_ret;exact⟨by rw[HR.out];rfl,((Fr.refl _ _).drewN _).drewN _⟩
 ·obtain⟨x,c,vt,hB,_,_⟩:=h.open
  have HR:Hid (nk (S.l.drop a)=0):=by show _=_;rw[List.drop_eq_nil_of_le (by omega)];rfl
  have ha:=h.ha;obtain⟨kc,kz,aH,kb⟩:=hB.rules
  generalize S.l.length=m at *;clear h hB;go_enter Tryz.func74,Tryz.ntmps74;go_wp2
  go_quiet (fail)
  go_wp2;go_ret;exact⟨by rw[HR.out];rfl,(Fr.refl _ _).drewN _⟩
theorem QS.pf (h:QS S a toks w) {W:World} (hf:Fr [S.bp] w W) {vt:Value} {x y x' y':Value} (hB:au w S.bp #[x,y,vt] 94) (hB':au W S.bp #[x',y',vt] 94):Pf S.bp w W :=
 ⟨hf.sub (by simp),fun k hk=>.inl (by rw[nW hB' (c:=#[])]at hk;rw[nW hB (c:=#[])];exact hk)⟩
def fits (t u v:Bool) (n:Ck.Node):Bool:=decide (0≤n.kids)&&(t||n.text==[])&&(u||n.int==0)&&(v||n.bits==0)
theorem Ai (t u v:Bool) (n:Ck.Node) (l:List Ck.Node) (toks:List Bytes):jw t u v (n::l,toks)=if fits t u v n then some (some (n,(l,toks)))else some none:=rfl
theorem xA (t u v:Bool):MP 75 [.bool t,.bool u,.bool v] S Ah (jw t u v):=by
 intro a toks w r h hm;by_cases hl:a<S.l.length
 ·obtain⟨g,c,vt,n,hB,hvl,hd,hgb,hgw,k0,k1,k2,k3,k4,k5,hown⟩:=h.node hl
  rw[hd,Ai]at hm
  have H:=Lib.hid h;have hlim:S.l.length≤1099511627776:=h.lim;obtain⟨kc,kz,aH,kb⟩:=hB.rules
  have HVL:=Lib.hid hvl;have HL:=Lib.hid hl;have VA:(S.l.length:Int)≤9223372036854775807:=by omega
  have HD:=Lib.hid hd;have hbk:∀k,S.bp<w.heap.size+k:=fun k=>by omega
  have hgk:∀k,g<w.heap.size+k:=fun k=>by omega
  have HB:=Lib.hid hB;clear hlim hd h hB hvl;go_enter Tryz.func75,Tryz.ntmps75;go_wp2
  go_quiet ((go_at_call 48;exact Calls.quiet_of_same (O9 _)))
  go_wp2
  go_region
  have HT:=Lib.hid hm;clear hm
  go_upto_region 3 with(fail)
  go_cut [] (fun W=>Hid (Fr [S.bp] w W∧au W S.bp #[.slice (some ⟨g,0,none⟩) S.l.length c,.int .i64 ((a:Int)+1),vt] 94∧au W w.heap.size #[.int .i64 0,.int .i64 0,.int .i64 0,.string ⟨#[]⟩,.int .i64 0,.int .u64 0] 40 ∧
   au W (w.heap.size+1) #[.int .i64 n.kind,.int .i64 n.at',.int .i64 n.kids,.string ⟨n.text.toArray⟩,.int .i64 n.int,.int .u64 n.bits] 40))
  case first =>
   go_wp2
   go_meet
   case rel =>
    have hB0:=HB.out;refine⟨?_,?_,?_,?_⟩
    ·repeat (first|exact Fr.refl _ _|refine Fr.alloc ?_ _|refine Fr.drewN ?_ _|refine Fr.setCell ?_ (by simp) _)
    ·exact(((hB0.alloc _).drewN _).Ua 1 _).alloc _
    ·exact((((au.new w _ _).drewN _).setOther (by simp;omega) _).alloc _)
    ·have:=au.new ((((w.alloc (.cells #[.int .i64 0,.int .i64 0,.int .i64 0,.string ⟨#[]⟩,.int .i64 0,.int .u64 0] 40)).drewN (nq+1)).setCell ⟨S.bp,1,none⟩ (.int .i64 ((a:Int)+1)))) #[.int .i64 n.kind,.int .i64 n.at',.int .i64 n.kids,.string ⟨n.text.toArray⟩,.int .i64 n.int,.int .u64 n.bits] 40
     simpa using this
  case rest =>
  obtain⟨q1,q2,q3,q4⟩:=hcut.out
  clear hcut kc kz aH k0 k1 k2 k3 k4 k5 hbk hgk;obtain⟨nc,nz,nN,nb⟩:=q4.rules
  obtain⟨rc,rz,bE,rb⟩:=q3.rules
  have O6:∀k,w.heap.size<wc.heap.size+k:=fun k=>by omega
  have nb':∀k,w.heap.size+1<wc.heap.size+k:=fun k=>by omega
  go_wp2_with (first|(go_at_call 48;with_reducible refine(iX _).mono ?_;rintro e w1 ⟨rfl,rfl⟩)|(go_at_call 48;with_reducible refine(jE _).mono ?_;rintro e w1 ⟨rfl,rfl⟩)|(go_at_call 48;refine(iY _ _).mono ?_;rintro e w1 (⟨hb,rfl,rfl⟩|⟨hb,rfl,rfl⟩)))
  all_goals first
   | (
     have hfit:fits t u v n=false:=by
      cases hf:fits t u v n
      ·rfl
      ·exfalso;unfold fits at hf;simp only[Bool.and_eq_true,Bool.or_eq_true,decide_eq_true_eq,beq_iff_eq]at hf;obtain⟨⟨⟨p1,p2⟩,p3⟩,p4⟩:=hf
       first|omega|(rcases p2 with q|q<;>contradiction)|(rcases p3 with q|q<;>contradiction)|(rcases p4 with q|q;contradiction;rw[q]at hb;cases hb)
     have hr:r=none:=by
      have:=HT.out.out;rw[hfit]at this;simpa using this.symm
     exact⟨rfl,.inl ⟨hr,rfl,H.out.pf q1 HB.out q2⟩⟩)
   | (
     have hfit:fits t u v n=true:=by
      unfold fits;simp only[Bool.and_eq_true,Bool.or_eq_true,decide_eq_true_eq,beq_iff_eq];refine⟨⟨⟨by assumption,?_⟩,?_⟩,?_⟩<;>first|(left;assumption)|(right;assumption)|(right;exact beq_iff_eq.1 hb)
     have hr:r=some (n,(S.l.drop (a+1),toks)):=by
      have:=HT.out.out;rw[hfit]at this;simpa using this.symm
     refine bodyPost_ret (v:=Ah n) (by simp[results,Tryz.results75,go_sem,Ah,rb]<;>simp_all only [and_self]) rfl ?_
     exact .inr ⟨n,a+1,toks,hr,rfl,H.out.go hown (q1.blk (.inr (Nat.le_refl _)) _ _) (HVL.out ▸ au.aL q2 (by omega)) HL.out,H.out.pf (q1.blk (.inr (Nat.le_refl _)) _ _) HB.out (au.aL q2 (by omega))⟩)
 ·obtain⟨x,c,vt,hB,hown,hvl⟩:=h.open
  have ha:=h.ha
  have hr:r=none:=by
   have:=hm.out
   rw[List.drop_eq_nil_of_le (by omega)]at this
   simpa[jw]using this.symm
  have hlim:S.l.length≤1099511627776:=h.lim;obtain⟨kc,kz,aH,kb⟩:=hB.rules
  have HR:=Lib.hid hr;have H:=Lib.hid h;have hbk:∀k,S.bp<w.heap.size+k:=fun k=>by omega
  clear hlim h hB hvl hm hr;go_enter Tryz.func75,Tryz.ntmps75;go_wp2
  go_region_dies
  all_goals (go_at_call 48;refine(jE _).mono ?_;rintro e w1 ⟨rfl,rfl⟩)
  all_goals exact⟨rfl,.inl ⟨HR.out,rfl,Pf.aC (((Fr.refl _ _).alloc _).drewN _) kb⟩⟩
end
end Go.Proofs.YtoomapkcoibmhaaGreatDoor
end
