/- A part of the proof. -/
import Derived.Test.YtoomapkcoibmhaaGreatDoorQ46
set_option maxRecDepth 100000
set_option maxHeartbeats 12800000
set_option linter.all false
section
namespace Ck
mutual
theorem aep:∀t:Tree,t.all Gm→∀m∈t.row,m.kind=21→binaries.contains m.text=true
 | .mk n ks,h,m,hm,hk=>by
  rcases List.mem_cons.1 hm with rfl|hm
  ·have hg:=h.1.2;unfold dR at hg;have hk':n.kind=21:=hk;simp only[hk',Int.reduceEq,if_true,if_false,or_self]at hg;exact hg.2.1
  ·exact adK ks h.2 m hm hk
theorem adK:∀l:List Tree,oH Gm l→∀m∈rows l,m.kind=21→binaries.contains m.text=true
 | [],_,m,hm,_=>by cases hm
 | t::l,h,m,hm,hk=>by
  rcases List.mem_append.1 hm with hm|hm
  ·exact aep t h.1 m hm hk
  ·exact adK l h.2 m hm hk
end
def aer (c:UInt8):Bool:=[43,45,42,47,37,60,62,61,33].contains c
theorem afI:∀x∈binaries,(!(x==[38]||x==[124]||x==[94]||x==[60,60]||x==[62,62]))=true→∃c r,x=c::r∧aer c=true:=by
 have h:binaries.all (fun x=>(x==[38]||x==[124]||x==[94]||x==[60,60]||x==[62,62])||(match x with|c::_=>aer c | []=>false))=true:=by decide
 intro x hx hn;have h1:=List.all_eq_true.1 h x hx;simp only[Bool.not_eq_true']at hn;rw[hn,Bool.false_or]at h1
 cases x with
 | nil=>cases h1
 | cons c r=>exact⟨c,r,rfl,h1⟩
theorem adL (s:Bytes) (F:dS) (n:Nat) (T:Tree) (ts':TS) (h:fU F n (iM (aM s).1 0)=some (.ok (T,ts'))) (hG:T.all Gm):∀p∈sites T.row,∃(k:Nat) (c:UInt8),p=(k:Int)∧s[k]? = some c∧aer c=true:=by
 intro p hp;unfold sites at hp;rw[List.mem_mergeSort,List.mem_map]at hp
 obtain⟨m,hm,rfl⟩:=hp
 obtain⟨hm,hq⟩:=List.mem_filter.1 hm
 unfold meets at hq;simp only[Bool.and_eq_true,beq_iff_eq]at hq;obtain⟨hk,hx⟩:=hq
 obtain⟨c,r,hcr,hc⟩:=afI m.text (List.contains_iff_mem.1 (aep T hG m hm hk)) hx
 obtain⟨t,ht,hk3,hat,htx⟩:=abY s F n T ts' h m hm hk
 obtain⟨k,h1,_,h2⟩:=(aaP s).1 t ht
 obtain⟨_,h4⟩:=h2 hk3
 refine⟨k,c,by rw[←hat,h1];simp,?_,hc⟩;rw[htx,hcr]at h4
 have h5:=List.isPrefixOf_iff_prefix.1 h4;obtain⟨q,hq⟩:=h5
 rw[←Nat.add_zero k,←List.getElem?_drop,←hq];rfl
theorem aeb (s:Bytes) (F:dS) (n:Nat) (T:Tree) (ts':TS) (h:fU F n (iM (aM s).1 0)=some (.ok (T,ts'))):(sites T.row).Pairwise (fun a b=>a<b):=by
 have hn:=ac7 s F n T ts' h meets (fun m hm=>by unfold meets at hm;simp at hm;exact hm.1);have h1:(sites T.row).Pairwise (fun a b=>decide (a≤b)=true):=List.pairwise_mergeSort (fun a b c h1 h2=>by simp at *;omega) (fun a b=>by simp;omega) _;have h2:(sites T.row).Nodup:=(List.mergeSort_perm _ _).nodup_iff.2 hn;refine(h1.and h2).imp ?_
 intro a b h3
 have:=h3.1
 have:=h3.2
 simp at *;omega
theorem afb (l:List Node):(sites l).length=(l.filter meets).length:=by
 unfold sites;rw[List.length_mergeSort,List.length_map]
end Ck
end
section
open Go Go.Proofs Go.RowKit Go.Shelf Go.Lib Ck
namespace Go.Proofs.YtoomapkcoibmhaaGreatDoor
attribute [local go_sem] Oper.semAt_some
theorem afc (s:Bytes) (hs:6000<s.length) (w:World) :
  Calls Tryz.prog 6 #[.string ⟨s.toArray⟩] w fun e w'=>e=.returned (.bool true)∧Fr [] w w':=by
 go_enter Tryz.func6,Tryz.ntmps6;have h1:(6000:Int)<s.length:=by omega
 go_wp2;go_ret;exact⟨rfl,Fr.refl _ _⟩
theorem afd (s:Bytes) (hs:s.length≤6000) (w:World) (hV:Vars w) (hf:(kU s).2.code≠0) :
  Calls Tryz.prog 6 #[.string ⟨s.toArray⟩] w fun e w'=>e=.returned (.bool true)∧Fr [] w w':=by
 have hl1:=sU s w hV (by omega);obtain⟨c,hc⟩:∃c,(kU s).2.code=c:=⟨_,rfl⟩
 obtain⟨a,ha⟩:∃a,(kU s).2.at'=a:=⟨_,rfl⟩
 rw[hc,ha]at hl1
 rw[hc]at hf
 have h1:(s.length:Int)≤6000:=by omega
 have h2:(c != 0)=true:=by simpa using hf
 go_enter Tryz.func6,Tryz.ntmps6
 go_wp2_with (first
  | (go_at_call 8;refine hl1.mono ?_;rintro e w1 ⟨v1,rfl,_,hf1⟩;have hb1:=au.new w1 #[.int .i64 c,.int .i64 a] 26;obtain⟨q1,q2,q3,q4⟩:=hb1.rules;clear hl1)
  | (go_at_call 11;refine(Eu _ (hV.fr (hf1.alloc _) (by simp))).mono ?_;rintro e w3 ⟨rfl,hf3⟩))
 go_ret;exact⟨rfl,(hf1.alloc _).trans hf3⟩
theorem ac5 (s:Bytes) (h:(kU s).2.code=0):∃T ts',fU (aM s).2 (fuel s) (iM (aM s).1 0)=some (.ok (T,ts'))∧(bC T false).code=0∧kU s=(T.row,bC T false):=by
 unfold kU at h ⊢;cases hp:fU (aM s).2 (fuel s) (iM (aM s).1 0) with
 | none =>
  have:=uP s
  unfold parseWith at this;rw[hp]at this
  exact absurd rfl this
 | some r =>
  rw[hp]at h
  cases r with
  | error f =>
   simp only at h;cases hc:f.code==0
   ·rw[hc]at h
    simp only[Bool.false_eq_true,if_false]at h;rw[h]at hc;cases hc
   ·rw[hc]at h;cases h
  | ok p =>
   obtain⟨T,ts⟩:=p
   simp only at h ⊢;cases hc:(bC T false).code==0
   ·rw[hc]at h
    simp only[Bool.false_eq_true,if_false]at h;rw[h]at hc;cases hc
   ·exact⟨T,ts,rfl,beq_iff_eq.1 hc,by simp⟩
theorem aec (s:Bytes) (hs:s.length≤6000) (w:World) (hV:Vars w) (hf:(kU s).2.code=0) :
  Calls Tryz.prog 6 #[.string ⟨s.toArray⟩] w fun e w'=>e=.returned (.bool true)∧Fr [] w w':=by
 obtain⟨T,ts',hp,hck,hlo⟩:=ac5 s hf
 obtain⟨hG,hk⟩:=yP s _ T ts' hp
 have hlen:T.row.length≤65538:=by
  have h1:=FP _ _ _ _ _ hp;have h2:=qV s;rw[xP]at h1;omega
 obtain⟨a,ha⟩:∃a,(bC T false).at'=a:=⟨_,rfl⟩
 have hl1:=sU s w hV (by omega);rw[hlo]at hl1
 simp only[hck,ha]at hl1;have hpl:=adL s _ _ T ts' hp hG;have hri:=aeb s _ _ T ts' hp;have hsl:=afb T.row;have hsm:vv T=sites T.row:=by unfold vv;rw[hck];rfl
 have hKl:(sites T.row).length≤65538:=by rw[hsl];exact Nat.le_trans (List.length_filter_le _ _) hlen
 have hne:T.row≠[]:=by cases T;simp[Tree.row]
 have hss:=fun g c X hV hR hc=>NH UD T hG hk (by rw[←kg];omega) g c T.row rfl X hV hR hc (fun m hm hme=>by
  have h1:m.at'∈sites T.row:=by
   unfold sites;rw[List.mem_mergeSort];exact List.mem_map.2 ⟨m,List.mem_filter.2 ⟨hm,hme⟩,rfl⟩
  obtain⟨k,c,h2,h3,_⟩:=hpl _ h1
  have h4:=(List.getElem?_eq_some_iff.1 h3).1;rw[h2]
  simp[Lit.wf,IntKind.min,IntKind.max,IntKind.signed,IntKind.bits];omega)
 rw[hsm]at hss
 obtain⟨R,hR⟩:∃R,T.row=R:=⟨_,rfl⟩
 obtain⟨K,hK⟩:∃K,sites T.row=K:=⟨_,rfl⟩
 rw[hK]at hss hpl hri hsl hKl
 rw[hR]at hl1 hss hsl hlen hne
 have HP:=Lib.hid hpl;have HR:=Lib.hid hri;have HSL:=Lib.hid hsl;have HV:=Lib.hid hV;clear hK hR hp hck hlo hG hk ha hf hpl hri hsl hsm hV;have h1:(s.length:Int)≤6000:=by omega
 go_enter Tryz.func6,Tryz.ntmps6
 go_wp2_with (first
  | (go_at_call 8;refine hl1.mono ?_;rintro e w1 ⟨v1,rfl,hrow,hf1⟩;obtain⟨g,c,rfl,hbg,NA,hcap⟩:=vg hrow hne;have hb1:=au.new w1 #[.int .i64 0,.int .i64 a] 26;obtain⟨q1,q2,q3,q4⟩:=hb1.rules;clear hl1 hrow)
  | (go_at_call 13;refine(hss g c _ (HV.out.fr (hf1.alloc _) (by simp)) (NA.fr ((Fr.refl [] _).alloc _) (by simp)) hcap).mono ?_;rintro e w2 ⟨v2,rfl,hf2,hrow2⟩;obtain⟨sa,sc,rfl,hs1,hs2,hcell⟩:=Qr hrow2;have hF2:=(hf1.alloc _).trans hf2;have af7:=(NA.fr ((Fr.refl [] _).alloc _) (by simp)).fr hf2 (by simp);clear hss hrow2))
 have HF2:=Lib.hid hF2;have hcf:=Lib.hid hcell;have HRA:=Lib.hid af7;clear hF2 hcell af7 hf1 hf2 hbg NA hb1 q1 q2 q3 q4
 go_loopw [6] (fun i wr=>∃q:Nat,i=.int .i64 q∧q≤K.length∧Hid (Fr [] w2 wr)) (fun i _=>K.length-(intOf i).toNat)
 case atStart=>exact⟨0,rfl,Nat.zero_le _,Lib.hid (Fr.refl _ _)⟩
 case round =>
  obtain⟨q,rfl,hq,hfr⟩:=hrel
  by_cases hlt:q<K.length
  ·obtain⟨x,hx⟩:∃x,K[q]? = some x:=⟨_,List.getElem?_eq_getElem hlt⟩
   obtain⟨k,ch,rfl,hch,hsy⟩:=HP.out x (List.mem_of_getElem? hx)
   obtain⟨gs,rfl,hgl,hc0⟩:=hcf.out q _ hx
   have hck:=(List.getElem?_eq_some_iff.1 hch)
   obtain⟨hkl,hke⟩:=hck
   have hki:(k:Int)<s.length:=by omega
   have ald:gs<wr.heap.size:=Nat.lt_of_lt_of_le hgl hfr.out.size;have hcq:wr.cell? ⟨gs,q,none⟩=some (.int .i64 k):=(hfr.out.nQ (p:=⟨gs,q,none⟩) hgl (by simp)).trans hc0
   have hcase:q=0∨∃(q0:Nat) (y:Int),(q:Int)-1=q0∧y<k∧wr.cell? ⟨gs,q0,none⟩=some (.int .i64 y):=by
    rcases Nat.eq_zero_or_pos q with h|h
    ·exact .inl h
    ·obtain⟨y,hy⟩:∃y,K[q-1]? = some y:=⟨_,List.getElem?_eq_getElem (by omega)⟩
     obtain⟨gs2,e2,_,hc1⟩:=hcf.out (q-1) y hy
     cases e2;refine .inr ⟨q-1,y,by omega,?_,(hfr.out.nQ (p:=⟨gs,q-1,none⟩) hgl (by simp)).trans hc1⟩;have h2:=List.pairwise_iff_getElem.1 HR.out (q-1) q (by omega) hlt (by omega);rw[List.getElem?_eq_getElem (by omega)]at hy hx
     rw[Option.some.inj hy,Option.some.inj hx]at h2
     exact h2
   have agq:ch=43∨ch=45∨ch=42∨ch=47∨ch=37∨ch=60∨ch=62∨ch=61∨ch=33:=by
    unfold aer at hsy;simpa using hsy
   clear hx hch hc0 hsy;rcases hcase with rfl|⟨q0,y,hq0,hyk,hcy⟩
   ·go_wp2;have hS:(fun X:World=>X=wr.drew) wr.drew:=rfl;refine wp_region_held (S:=fun X:World=>X=wr.drew) (by kernel_rfl) ?_;refine tk 0 (.slice (some ⟨gs,0,none⟩) K.length sc) rfl hS (fun X hX=>?_) ?_
    ·obtain rfl:=hX;go_simp
    simp only[Act.put,acts];refine tk 1 (.int .i64 (0:Nat)) rfl hS (fun X hX=>?_) ?_
    ·obtain rfl:=hX;go_simp
    simp only[Act.put,acts];refine tk 2 (.pointer (some ⟨gs,0,none⟩)) rfl hS (fun X hX=>?_) ?_
    ·obtain rfl:=hX;go_simp
    simp only[Act.put,acts];refine tk 3 (.int .i64 k) rfl hS (fun X hX=>?_) ?_
    ·obtain rfl:=hX;go_simp
    simp only[Act.put,acts];refine tk 4 (.bool false) rfl hS (fun X hX=>?_) ?_
    ·obtain rfl:=hX;go_simp;first|done|omega|(simp;omega)
    simp only[Act.put,acts];refine tk 5 (.bool false) rfl hS (fun X hX=>?_) ?_
    ·obtain rfl:=hX;go_simp
    simp only[Act.put,acts];refine tk 6 (.slice (some ⟨gs,0,none⟩) K.length sc) rfl hS (fun X hX=>?_) ?_
    ·obtain rfl:=hX;go_simp
    simp only[Act.put,acts];refine tk 7 (.int .i64 (0:Nat)) rfl hS (fun X hX=>?_) ?_
    ·obtain rfl:=hX;go_simp
    simp only[Act.put,acts];refine tk 8 (.pointer (some ⟨gs,0,none⟩)) rfl hS (fun X hX=>?_) ?_
    ·obtain rfl:=hX;go_simp
    simp only[Act.put,acts];refine tk 9 (.int .i64 k) rfl hS (fun X hX=>?_) ?_
    ·obtain rfl:=hX;go_simp
    simp only[Act.put,acts];refine tk 10 (.string ⟨s.toArray⟩) rfl hS (fun X hX=>?_) ?_
    ·obtain rfl:=hX;go_simp
    simp only[Act.put,acts];refine tk 11 (.int .i64 s.length) rfl hS (fun X hX=>?_) ?_
    ·obtain rfl:=hX;go_simp
    simp only[Act.put,acts];refine tk 12 (.bool false) rfl hS (fun X hX=>?_) ?_
    ·obtain rfl:=hX;go_simp;first|done|omega|(simp;omega)
    simp only[Act.put,acts];refine tk 13 (.bool false) rfl hS (fun X hX=>?_) ?_
    ·obtain rfl:=hX;go_simp
    simp only[Act.put,acts];refine tk 14 (.bool false) rfl hS (fun X hX=>?_) ?_
    ·obtain rfl:=hX;go_simp
    simp only[Act.put,acts];refine tk 15 (.int .i64 (0:Nat)) rfl hS (fun X hX=>?_) ?_
    ·obtain rfl:=hX;go_simp
    simp only[Act.put,acts];refine tk 16 (.bool false) rfl hS (fun X hX=>?_) ?_
    ·obtain rfl:=hX;go_simp;first|done|omega|(simp;omega)
    simp only[Act.put,acts];refine tk 17 (.bool false) rfl hS (fun X hX=>?_) ?_
    ·obtain rfl:=hX;go_simp
    simp only[Act.put,acts];refine tks 18 rfl hS ?_;simp only[Act.put,acts];refine tks 19 rfl hS ?_;simp only[Act.put,acts];refine tks 20 rfl hS ?_;simp only[Act.put,acts];refine tks 21 rfl hS ?_;simp only[Act.put,acts];refine tks 22 rfl hS ?_;simp only[Act.put,acts];refine tks 23 rfl hS ?_;simp only[Act.put,acts];refine tks 24 rfl hS ?_;simp only[Act.put,acts];refine tks 25 rfl hS ?_;simp only[Act.put,acts];refine tks 26 rfl hS ?_;simp only[Act.put,acts];refine tks 27 rfl hS ?_;simp only[Act.put,acts];refine tk 28 (.bool false) rfl hS (fun X hX=>?_) ?_
    ·obtain rfl:=hX;go_simp
    simp only[Act.put,acts];refine tk 29 (.bool false) rfl hS (fun X hX=>?_) ?_
    ·obtain rfl:=hX;go_simp
    simp only[Act.put,acts];refine wpAnyH_done (by kernel_rfl) ?_ _;rcases agq with rfl|rfl|rfl|rfl|rfl|rfl|rfl|rfl|rfl
    all_goals (go_wp2;exact⟨⟨1,by go_num,by omega,hfr.out.drew⟩,by simp[intOf];omega⟩)
   ·have ale:(q0:Int)<K.length:=by omega
    go_wp2;have hS:(fun X:World=>X=wr.drew) wr.drew:=rfl;refine wp_region_held (S:=fun X:World=>X=wr.drew) (by kernel_rfl) ?_;refine tk 0 (.slice (some ⟨gs,0,none⟩) K.length sc) rfl hS (fun X hX=>?_) ?_
    ·obtain rfl:=hX;go_simp
    simp only[Act.put,acts];refine tk 1 (.int .i64 q) rfl hS (fun X hX=>?_) ?_
    ·obtain rfl:=hX;go_simp
    simp only[Act.put,acts];refine tk 2 (.pointer (some ⟨gs,q,none⟩)) rfl hS (fun X hX=>?_) ?_
    ·obtain rfl:=hX;go_simp
    simp only[Act.put,acts];refine tk 3 (.int .i64 k) rfl hS (fun X hX=>?_) ?_
    ·obtain rfl:=hX;go_simp
    simp only[Act.put,acts];refine tk 4 (.bool false) rfl hS (fun X hX=>?_) ?_
    ·obtain rfl:=hX;go_simp;first|done|omega|(simp;omega)
    simp only[Act.put,acts];refine tk 5 (.bool false) rfl hS (fun X hX=>?_) ?_
    ·obtain rfl:=hX;go_simp
    simp only[Act.put,acts];refine tk 6 (.slice (some ⟨gs,0,none⟩) K.length sc) rfl hS (fun X hX=>?_) ?_
    ·obtain rfl:=hX;go_simp
    simp only[Act.put,acts];refine tk 7 (.int .i64 q) rfl hS (fun X hX=>?_) ?_
    ·obtain rfl:=hX;go_simp
    simp only[Act.put,acts];refine tk 8 (.pointer (some ⟨gs,q,none⟩)) rfl hS (fun X hX=>?_) ?_
    ·obtain rfl:=hX;go_simp
    simp only[Act.put,acts];refine tk 9 (.int .i64 k) rfl hS (fun X hX=>?_) ?_
    ·obtain rfl:=hX;go_simp
    simp only[Act.put,acts];refine tk 10 (.string ⟨s.toArray⟩) rfl hS (fun X hX=>?_) ?_
    ·obtain rfl:=hX;go_simp
    simp only[Act.put,acts];refine tk 11 (.int .i64 s.length) rfl hS (fun X hX=>?_) ?_
    ·obtain rfl:=hX;go_simp
    simp only[Act.put,acts];refine tk 12 (.bool false) rfl hS (fun X hX=>?_) ?_
    ·obtain rfl:=hX;go_simp;first|done|omega|(simp;omega)
    simp only[Act.put,acts];refine tk 13 (.bool false) rfl hS (fun X hX=>?_) ?_
    ·obtain rfl:=hX;go_simp
    simp only[Act.put,acts];refine tk 14 (.bool false) rfl hS (fun X hX=>?_) ?_
    ·obtain rfl:=hX;go_simp
    simp only[Act.put,acts];refine tk 15 (.int .i64 q) rfl hS (fun X hX=>?_) ?_
    ·obtain rfl:=hX;go_simp
    simp only[Act.put,acts];refine tk 16 (.bool true) rfl hS (fun X hX=>?_) ?_
    ·obtain rfl:=hX;go_simp;first|done|omega|(simp;omega)
    simp only[Act.put,acts];refine tk 17 (.bool true) rfl hS (fun X hX=>?_) ?_
    ·obtain rfl:=hX;go_simp
    simp only[Act.put,acts];refine tk 18 (.slice (some ⟨gs,0,none⟩) K.length sc) rfl hS (fun X hX=>?_) ?_
    ·obtain rfl:=hX;go_simp
    simp only[Act.put,acts];refine tk 19 (.int .i64 q) rfl hS (fun X hX=>?_) ?_
    ·obtain rfl:=hX;go_simp
    simp only[Act.put,acts];refine tk 20 (.pointer (some ⟨gs,q,none⟩)) rfl hS (fun X hX=>?_) ?_
    ·obtain rfl:=hX;go_simp
    simp only[Act.put,acts];refine tk 21 (.int .i64 k) rfl hS (fun X hX=>?_) ?_
    ·obtain rfl:=hX;go_simp
    simp only[Act.put,acts];refine tk 22 (.slice (some ⟨gs,0,none⟩) K.length sc) rfl hS (fun X hX=>?_) ?_
    ·obtain rfl:=hX;go_simp
    simp only[Act.put,acts];refine tk 23 (.int .i64 q) rfl hS (fun X hX=>?_) ?_
    ·obtain rfl:=hX;go_simp
    simp only[Act.put,acts];refine tk 24 (.int .i64 (q0:Int)) rfl hS (fun X hX=>?_) ?_
    ·obtain rfl:=hX;go_simp;first|done|(rw[IntWalk.i64_in _ (by omega)])
    simp only[Act.put,acts];refine tk 25 (.pointer (some ⟨gs,q0,none⟩)) rfl hS (fun X hX=>?_) ?_
    ·obtain rfl:=hX;go_simp
    simp only[Act.put,acts];refine tk 26 (.int .i64 y) rfl hS (fun X hX=>?_) ?_
    ·obtain rfl:=hX;go_simp
    simp only[Act.put,acts];refine tk 27 (.bool false) rfl hS (fun X hX=>?_) ?_
    ·obtain rfl:=hX;go_simp;first|done|omega|(simp;omega)
    simp only[Act.put,acts];refine tk 28 (.bool false) rfl hS (fun X hX=>?_) ?_
    ·obtain rfl:=hX;go_simp
    simp only[Act.put,acts];refine tk 29 (.bool false) rfl hS (fun X hX=>?_) ?_
    ·obtain rfl:=hX;go_simp
    simp only[Act.put,acts];refine wpAnyH_done (by kernel_rfl) ?_ _;rcases agq with rfl|rfl|rfl|rfl|rfl|rfl|rfl|rfl|rfl
    all_goals (go_wp2;exact⟨⟨q+1,by go_num,by omega,hfr.out.drew⟩,by simp[intOf];omega⟩)
  ·obtain rfl:q=K.length:=by omega
   have agr:=hfr.out;clear hfr hcf HP HR hq hlt;go_wp2
   go_loopw [7,8] (fun n j wr2=>∃q:Nat,j=.int .i64 q∧q≤R.length∧n=.int .i64 (tN R q).length∧Hid (Fr [] w2 wr2)) (fun _ j _=>R.length-(intOf j).toNat)
   case atStart=>exact⟨0,rfl,Nat.zero_le _,rfl,agr⟩
   case round =>
    clear agr;obtain⟨q,rfl,hq,rfl,hfr⟩:=hrel
    by_cases hlt:q<R.length
    ·obtain⟨nd,hnd⟩:∃nd,R[q]? = some nd:=⟨_,List.getElem?_eq_getElem hlt⟩
     have KI:=HRA.out.fr hfr.out (by simp);have hgl:=KI.gl;have n0:wr.cell? ⟨g,q*6,none⟩=some (.int .i64 nd.kind):=KI.cells q nd hnd 0 (by omega);have n3:wr.cell? ⟨g,q*6+3,none⟩=some (.string ⟨nd.text.toArray⟩):=KI.cells q nd hnd 3 (by omega);have hps:=ND hnd;have hpl:=Ma R q;clear hnd KI;by_cases hk:nd.kind=21
     ·have hme:meets nd = !(nd.text==[38]||nd.text==[124]||nd.text==[94]||nd.text==[60,60]||nd.text==[62,62]):=by unfold meets;rw[hk];rfl
      rw[hk]at n0
      clear hk;cases e1:(nd.text==[38])
      ·cases e2:(nd.text==[124])
       ·cases e3:(nd.text==[94])
        ·cases e4:(nd.text==[60,60])
         ·cases e5:(nd.text==[62,62])
          ·rw[e1,e2,e3,e4,e5]at hme
           rw[hme,if_pos (by rfl)]at hps
           have HPS:=Lib.hid hps;clear hps hme;go_wp2;refine⟨⟨q+1,by go_num,by omega,by rw[HPS.out,List.length_append];go_num,hfr⟩,by simp[intOf];omega⟩
          ·rw[e1,e2,e3,e4,e5]at hme
           rw[hme,if_neg (by decide)]at hps
           have HPS:=Lib.hid hps;clear hps hme;go_wp2;refine⟨⟨q+1,by go_num,by omega,by rw[HPS.out],hfr⟩,by simp[intOf];omega⟩
         ·rw[e1,e2,e3,e4]at hme
          simp only[Bool.or_true,Bool.true_or,Bool.false_or,Bool.or_false,Bool.not_true]at hme;rw[hme,if_neg (by decide)]at hps
          have HPS:=Lib.hid hps;clear hps hme;go_wp2;refine⟨⟨q+1,by go_num,by omega,by rw[HPS.out],hfr⟩,by simp[intOf];omega⟩
        ·rw[e1,e2,e3]at hme
         simp only[Bool.or_true,Bool.true_or,Bool.false_or,Bool.or_false,Bool.not_true]at hme;rw[hme,if_neg (by decide)]at hps
         have HPS:=Lib.hid hps;clear hps hme;go_wp2;refine⟨⟨q+1,by go_num,by omega,by rw[HPS.out],hfr⟩,by simp[intOf];omega⟩
       ·rw[e1,e2]at hme
        simp only[Bool.or_true,Bool.true_or,Bool.false_or,Bool.or_false,Bool.not_true]at hme;rw[hme,if_neg (by decide)]at hps
        have HPS:=Lib.hid hps;clear hps hme;go_wp2;refine⟨⟨q+1,by go_num,by omega,by rw[HPS.out],hfr⟩,by simp[intOf];omega⟩
      ·rw[e1]at hme
       simp only[Bool.or_true,Bool.true_or,Bool.false_or,Bool.or_false,Bool.not_true]at hme;rw[hme,if_neg (by decide)]at hps
       have HPS:=Lib.hid hps;clear hps hme;go_wp2;refine⟨⟨q+1,by go_num,by omega,by rw[HPS.out],hfr⟩,by simp[intOf];omega⟩
     ·have hme:meets nd=false:=by unfold meets;rw[beq_false_of_ne hk];rfl
      rw[hme,if_neg (by decide)]at hps
      have HPS:=Lib.hid hps;have hk2:(nd.kind==21)=false:=beq_false_of_ne hk;clear hps hme;go_wp2;refine⟨⟨q+1,by go_num,by omega,by rw[HPS.out],hfr⟩,by simp[intOf];omega⟩
    ·obtain rfl:q=R.length:=by omega
     have hfe:(tN R R.length).length=K.length:=by
      rw[HSL.out];unfold tN;rw[List.take_length,List.length_map]
     rw[hfe];have hb:((K.length:Int)==K.length)=true:=by simp
     go_wp2_with (go_at_call 11;refine(Eu _ (HV.out.fr ((HF2.out.trans hfr.out)) (by simp))).mono ?_;rintro e w5 ⟨rfl,fF⟩)
     go_ret;exact⟨rfl,(HF2.out.trans hfr.out).trans fF⟩
theorem afa (s:Bytes) (w:World) (hV:Vars w) :
  Calls Tryz.prog 6 #[.string ⟨s.toArray⟩] w fun e w'=>e=.returned (.bool true)∧Fr [] w w':=by
 by_cases hs:s.length≤6000
 ·by_cases hf:(kU s).2.code=0
  ·exact aec s hs w hV hf
  ·exact afd s hs w hV hf
 ·exact afc s (by omega) w
end Go.Proofs.YtoomapkcoibmhaaGreatDoor
end
