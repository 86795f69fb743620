/- A part of the proof. -/
import Derived.Test.YtoomapkcoibmhaaGreatDoorQ37
set_option maxRecDepth 100000
set_option maxHeartbeats 12800000
set_option linter.all false
section
open Go Go.Proofs Go.RowKit Go.Shelf Go.Maps Ck
namespace Ck
theorem BS {α:Type} {x:α}:∀{A B C D:List α},x∉A→x∉B→A++x::C=B++x::D→A=B
 | [],[],_,_,_,_,_=>rfl
 | [],b::B,_,_,_,h2,h=>by simp at h;exact absurd (by simp[h.1]) h2
 | a::A,[],_,_,h1,_,h=>by simp at h;exact absurd (by simp[h.1]) h1
 | a::A,b::B,_,_,h1,h2,h=>by
  simp only[List.cons_append,List.cons.injEq]at h;rw[h.1,BS (fun e=>h1 (List.mem_cons_of_mem _ e)) (fun e=>h2 (List.mem_cons_of_mem _ e)) h.2]
theorem Mc:∀(l:List Tree) (p x:Nat),x∈kpos p l→x<p+(rows l).length
 | [],_,_,h=>by cases h
 | t::l,p,x,h=>by
  have h1:1≤t.row.length:=by cases t;simp[Tree.row]
  simp only[kpos,List.mem_cons]at h;simp only[rows,List.length_append];rcases h with rfl|h
  ·omega
  ·have:=Mc l _ x h;omega
theorem xY {R rest:List Node}:∀(l:List Tree) (p:Nat),R.drop p=rows l++rest→∀t∈l,∃x∈kpos p l,R[x]? = some { t.n with kids:=(t.ks.length:Int) }
 | [],_,_,_,h=>by cases h
 | a::l,p,hR,t,h=>by
  simp only[rows,List.append_assoc]at hR;rcases List.mem_cons.1 h with rfl|h
  ·refine⟨p,by simp[kpos],?_⟩;obtain⟨n,ks⟩:=t
   have:=congrArg (fun l=>l[0]?) hR
   simpa[Tree.row,Tree.n,Tree.ks]using this
  ·have h2:R.drop (p+a.row.length)=rows l++rest:=by rw[←List.drop_drop,hR];simp
   obtain⟨x,hx,h3⟩:=xY l _ h2 t h
   exact⟨x,by simp[kpos,hx],h3⟩
theorem IB:∀{l:List Tree} {t:Tree},t∈l→t.size≤sizes l
 | [],_,h=>by cases h
 | a::l,t,h=>by
  simp only[sizes];rcases List.mem_cons.1 h with rfl|h
  ·omega
  ·have:=IB h;omega
end Ck
namespace Go.Proofs.YtoomapkcoibmhaaGreatDoor
attribute [local go_sem] Oper.semAt_some
theorem FY (n:Nat) (hn:1≤n) (Bi Bl:Nat) (R rest:List Ck.Node) (i g c:Nat) (m:Ck.Node) (ks:List Tree) (hT:R.drop i=(Tree.mk m ks).row++rest) (hlim:R.length≤1099511627776) (w:World) (hB:lX R g c i Bi Bl w) :
  SeqStopsK Fence.wide n Tryz.prog 30 #[.pointer (some ⟨Bi,0,none⟩),.pointer (some ⟨Bl,0,none⟩)] (fun x:{ x:Nat // VP i ks x }=>#[.int .i64 (x.1:Int)]) (nH [Bi,Bl,g]) (fun xs=>xs.map (·.1)=kpos (i+1) ks) (fun xs=>xs.map (·.1) <+: kpos (i+1) ks) 1099511627777 w:=fun l J Jx W hW hJ _ hY h0=>by
 refine(D5 n hn l Bi Bl R rest i g c m ks hT hlim (fun pre W=>∃pre':List { x:Nat // VP i ks x },pre'.map (·.1)=pre∧J pre' W) (fun pre W=>∃pre':List { x:Nat // VP i ks x },pre'.map (·.1)=pre∧Jx pre' W) ?_ ?_ W (hB.fr (Fr.of_below hW)) ⟨[],rfl,h0⟩).mono ?_
 ·rintro pre x W1 hv ⟨pre',rfl,h1⟩ hl;obtain⟨fn,tmps,assign,body,hy,RI⟩:=hY pre' ⟨x,hv⟩ W1 h1 (by simpa using hl)
  refine⟨fn,tmps,assign,body,hy,RI.mono ?_⟩;rintro e W' (⟨rfl,h2,h3⟩|⟨rfl,h2⟩)
  ·exact .inl ⟨rfl,⟨_,by simp,h2⟩,h3⟩
  ·exact .inr ⟨rfl,_,by simp,h2⟩
 ·rintro pre A C ⟨pre',rfl,h1⟩ hf;exact⟨pre',rfl,hJ pre' A C none h1 (jW hf) (fun r e=>by cases e)⟩
 ·rintro e W' ⟨h1,⟨xs,rfl,pre',h2,h3⟩|⟨pre,hp,pre',h2,h3⟩⟩
  ·exact⟨h1,.inl ⟨pre',h2,h3⟩⟩
  ·exact⟨h1,.inr ⟨pre',by show pre'.map (·.1) <+: _;rw[h2];exact hp,h3⟩⟩
def RgI (name:Bytes) (R:List Ck.Node) (Wc:World) (pre:List Nat) (W:World):Prop:=Fr [] Wc W∧∀y∈pre,∀nd,R[y]? = some nd→isFn name nd=false
def RgX (name:Bytes) (R:List Ck.Node) (ks:List Tree) (rb:Nat) (Wc:World) (pre:List Nat) (W:World):Prop :=
 ∃done t ts oV,ks=done++t::ts∧pre=oV++[1+(rows done).length]∧(∀y∈oV,∀nd,R[y]? = some nd→isFn name nd=false)∧isFn name t.n=true∧Fr [rb] Wc W∧au W rb #[.int .i64 (registers t:Nat)] 3
theorem Qw {name:Bytes} {R:List Ck.Node} {ks:List Tree} {n:Ck.Node} {rb:Nat} {Wc W:World} {pre:List Nat} (hT:R.drop 0=(Tree.mk n ks).row++[]) (hp:pre <+: kpos 1 ks) (h:RgX name R ks rb Wc pre W) :
  ∃t,ks.find? (fun t=>isFn name t.n)=some t∧Fr [rb] Wc W∧au W rb #[.int .i64 (registers t:Nat)] 3:=by
 obtain⟨done,t,ts,oV,hks,rfl,hno,hyes,h1,h2⟩:=h
 refine⟨t,?_,h1,h2⟩;have hR:=(bJ hT).1;rw[hks,List.find?_append]
 have hdr:R.drop 1=rows done++(t.row++(rows ts++[])):=by
  have:R.drop (0+1)=_:=hR
  rw[hks,dh]at this
  simpa[rows]using this
 have hx:R[1+(rows done).length]? = some { t.n with kids:=(t.ks.length:Int) }:=by
  have h3:=congrArg (fun l=>l[(rows done).length]?) hdr;obtain⟨a,b⟩:=t
  rw[List.getElem?_drop]at h3
  simpa[Tree.row,Tree.n,Tree.ks,List.getElem?_append_right]using h3
 have hk:kpos 1 done=oV:=by
  obtain⟨L,hL⟩:=hp
  rw[hks,iN,List.append_assoc]at hL
  refine(BS (x:=1+(rows done).length) (C:=L) ?_ ?_ hL).symm
  ·intro hm
   have:=hno _ hm _ hx
   rw[show isFn name { t.n with kids:=(t.ks.length:Int) }=isFn name t.n from rfl,hyes]at this
   cases this
  ·intro hm
   have:=Mc done 1 _ hm
   omega
 have hnone:done.find? (fun t=>isFn name t.n)=none:=by
  rw[List.find?_eq_none];intro t' ht';obtain⟨x,hx,h3⟩:=xY done 1 hdr t' ht'
  rw[hk]at hx
  have:=hno x hx _ h3
  simp[show isFn name t'.n=false from this]
 rw[hnone];simp[hyes]
theorem Qx {name:Bytes} {R:List Ck.Node} {ks:List Tree} {n:Ck.Node} {Wc W:World} (hT:R.drop 0=(Tree.mk n ks).row++[]) (h:RgI name R Wc (kpos 1 ks) W):ks.find? (fun t=>isFn name t.n)=none:=by
 rw[List.find?_eq_none];intro t' ht';obtain⟨x,hx,h3⟩:=xY ks 1 (bJ hT).1 t' ht'
 have:=h.2 x hx _ h3
 simp[show isFn name t'.n=false from this]
theorem Qy (Qn:∀S N,(S.R.length≤S.c∧S.c≤maxLen)→FV S N) (n:Ck.Node) (ks:List Tree) (hG:(Tree.mk n ks).all Gm) (hk1:n.kind=1) (hsz:(Tree.mk n ks).size≤3000000) (g c:Nat) (name:Bytes) (R:List Ck.Node) (hR:R=(Tree.mk n ks).row) (w:World) (hV:Vars w) (xV:J4 R g w) (hcap:R.length≤c∧c≤maxLen) :
  Calls Tryz.prog 9 #[.slice (some ⟨g,0,none⟩) R.length c,.string ⟨name.toArray⟩] w fun e w'=>e=.returned (.int .i64 (regs (Tree.mk n ks) name:Nat))∧Fr [] w w':=by
 have hT:R.drop 0=(Tree.mk n ks).row++[]:=by simp[hR]
 obtain⟨W1,hW1⟩:∃X,X=((w.alloc (.cells #[.slice (some ⟨g,0,none⟩) R.length c] 23)).alloc (.cells #[.string ⟨name.toArray⟩] 9)).alloc (.cells #[.int .i64 0] 3):=⟨_,rfl⟩
 have hf1:Fr [] w W1:=by rw[hW1];exact(((Fr.refl _ _).alloc _).alloc _).alloc _
 have hB0:au W1 w.heap.size #[.slice (some ⟨g,0,none⟩) R.length c] 23:=by rw[hW1];exact((au.new _ _ _).alloc _).alloc _
 have hB1:au W1 (w.heap.size+1) #[.string ⟨name.toArray⟩] 9:=by
  rw[hW1];have:=(au.new (w.alloc (.cells #[.slice (some ⟨g,0,none⟩) R.length c] 23)) #[.string ⟨name.toArray⟩] 9).alloc (.cells #[.int .i64 0] 3)
  simpa only[World.size_alloc]using this
 have hB2:au W1 (w.heap.size+1+1) #[.int .i64 0] 3:=by
  rw[hW1];have:=au.new ((w.alloc (.cells #[.slice (some ⟨g,0,none⟩) R.length c] 23)).alloc (.cells #[.string ⟨name.toArray⟩] 9)) #[.int .i64 0] 3
  simpa only[World.size_alloc]using this
 have hl:=Iy Qn (Tree.mk n ks) hG hk1 hsz g c true W1 (hV.fr hf1 (by simp)) (by rw[←hR];exact xV.fr hf1 (by simp)) (by rw[←hR];exact hcap);rw[←hR]at hl
 obtain⟨code,hcode⟩:∃x,Hid ((bC (Tree.mk n ks) true).code=x):=⟨_,rfl⟩
 obtain⟨fat,Qt⟩:∃x,Hid ((bC (Tree.mk n ks) true).at'=x):=⟨_,rfl⟩
 rw[hcode.out,Qt.out]at hl
 have Ep:Hid ((if code==0 then(match ks.find? (fun t=>isFn name t.n) with|some t=>registers t|none=>0)else 0)=regs (Tree.mk n ks) name):=by
  unfold regs;rw[hcode.out];rfl
 obtain⟨rr,hrr⟩:∃x,Hid (regs (Tree.mk n ks) name=x):=⟨_,rfl⟩
 rw[hrr.out]at Ep ⊢
 obtain⟨b0c,b0z,b0s,b0l⟩:=hB0.rules
 obtain⟨b1c,b1z,b1s,b1l⟩:=hB1.rules
 obtain⟨b2c,b2z,b2s,Va⟩:=hB2.rules
 have HRR:=Lib.hid hR;clear hR hcode Qt hrr;have htG:∀t∈ks,t.all Gm:=fun t ht=>dN hG.2 t ht
 have Xe:∀t∈ks,t.all Three:=fun t ht=>mI (fun _ _ h=>⟨(qE h).2.2.1,(qE h).1⟩) t (htG t ht)
 have acg:∀t∈ks,t.n.kind=3→t.ks≠[]:=fun t ht h=>by
  have h1:=htG t ht;obtain⟨a,b⟩:=t
  exact(qE h1.1).2.2.2.2 h
 have ach:∀t∈ks,t.size≤3000000:=fun t ht=>by
  have:=IB ht
  have h2:(Tree.mk n ks).size=sizes ks+1:=by simp[Tree.size]
  omega
 refine(callsIn_wide (n:=3)).1 ?_
 have h1:1≤3:=by omega
 refine callsIn_of_wp_marks Tryz.func9 rfl trivial ?_ rfl;simp only[Tryz.ntmps9,List.size_toArray,List.length_cons,List.length_nil,Nat.reduceAdd,Nat.reduceSub,Array.replicate_succ,Array.replicate_zero,List.push_toArray,List.append_toArray,List.nil_append,List.cons_append]
 gi_wp2_with (fail)
 rw[←hW1];clear hW1;have hfd:∀w:World,(Instr.field 26 (.agg #[.int .i64 code,.int .i64 fat]) 0).run Tryz.prog w=.ok (.int .i64 code) w:=fun _=>by kernel_rfl
 have aci:=fun W hV xV=>BQ R n ks g c true W HRR.out xV hV (by have:=kg (Tree.mk n ks);rw[HRR.out,this];omega) (by rw[HRR.out];exact Tx hG (by omega))
 cases hcd:(code==0)
 ·have hc0:¬code=0:=by simpa using hcd
  rw[hcd]at Ep
  have acj:rr=0:=Ep.out.symm;subst acj
  gi_wp2_with (refine⟨trivial,?_⟩;gi_at_call 16;refine(callsIn_wide.2 hl).mono ?_;rintro e w2 ⟨rfl,hf2⟩;obtain⟨b2c,b2z,b2s,Va⟩:=(hB2.fr hf2 (by simp)).rules)
  have uh:au (Ck.blk w2 (w.heap.size+1+1) #[.int .i64 0] 3) (w.heap.size+1+1) #[.int .i64 0] 3:=au.blk Va;obtain⟨qc,qz,bS,qb⟩:=uh.rules
  simp[bodyPostM,LeavesInM,LeavesIn,results,Tryz.results9,go_sem,qc];exact Fr.blk (hf1.trans hf2) (.inr (by show w.heap.size≤w.heap.size+1+1;omega)) _ _
 ·have hc0:code=0:=by simpa using hcd
  subst hc0;rw[hcd]at Ep
  have Qz:Hid ((match ks.find? (fun t=>isFn name t.n) with|some t=>registers t|none=>0)=rr):=Ep.out;clear Ep hcd
  gi_wp2_with (first|(refine⟨trivial,?_⟩;gi_at_call 16;refine(callsIn_wide.2 hl).mono ?_;rintro e w2 ⟨rfl,hf2⟩;obtain⟨b0c,b0z,b0s,b0l⟩:=(hB0.fr hf2 (by simp)).rules)|(refine⟨trivial,?_⟩;gi_at_call 17;refine(callsIn_wide.2 (aci _ (hV.fr (hf1.trans hf2) (by simp)) (xV.fr (hf1.trans hf2) (by simp)))).mono ?_;rintro e w3 ⟨bp,mg,mp,ma,rfl,hK,hf3⟩;obtain⟨b0c,b0z,b0s,b0l⟩:=(hB0.fr (hf2.trans hf3) (by simp)).rules))
  obtain⟨Wc,hWc⟩:∃X,X=w3.alloc (.cells #[.pointer (some ⟨bp,0,none⟩)] 45):=⟨_,rfl⟩
  have hfc:Fr [] w3 Wc:=by rw[hWc];exact(Fr.refl _ _).alloc _
  have hBc:au Wc w3.heap.size #[.pointer (some ⟨bp,0,none⟩)] 45:=by rw[hWc];exact au.new _ _ _
  have Xf:Wc.heap.size=w3.heap.size+1:=by rw[hWc];simp only[World.size_alloc]
  rw[←hWc];clear hWc;have hfw:Fr [] w Wc:=((hf1.trans hf2).trans hf3).trans hfc;have Xg:Fr [] W1 Wc:=(hf2.trans hf3).trans hfc;have hki:=xD 2 R 0 g c Wc;have hsrc:=AJ R 0 g c Wc (xV.fr hfw (by simp));rw[Xf]at hki hsrc
  refine⟨trivial,?_⟩
  gi_at_call 18
  refine hki.mono ?_;rintro e W9 ⟨rfl,hW9⟩;have hB9:lX R g c 0 (w3.heap.size+1+1) (w3.heap.size+1) W9:=by rw[hW9];exact hsrc
  have RZ:W9.heap.size=w3.heap.size+1+1+1:=by rw[hW9];simp only[World.size_alloc,Xf]
  have jC:Fr [] Wc W9:=by rw[hW9];exact((Fr.refl _ _).alloc _).alloc _
  clear hsrc hki hW9
  have hw3:w.heap.size+1+1<w3.heap.size:=by
   have h1:=hB2.lt;have h2:=(hf2.trans hf3).size;omega
  have HW3:=Lib.hid hw3;clear hw3
  gi_wp2
  refine wpIn_rangeFunc_ownH rfl h1 (gf:=30) (lb:=#[.pointer (some ⟨w3.heap.size+1+1,0,none⟩),.pointer (some ⟨w3.heap.size+1,0,none⟩)]) rfl trivial (enters_of Tryz.func30 (by kernel_rfl) rfl)
   (FY (3-1) (by omega) (w3.heap.size+1+1) (w3.heap.size+1) R [] 0 g c n ks hT (by have:=kg (Tree.mk n ks);rw[HRR.out,this];omega) W9 hB9) Fq (fun W l o o' _ ho hc _=>Fu W l o o' ho hc) (Below.refl _ _) (fun _=>rfl)
   (fun(pre:List { x:Nat // VP 0 ks x }) W=>RgI name R W9 (pre.map (fun y:{ x:Nat // VP 0 ks x }=>y.1)) W)
   (fun cd (pre:List { x:Nat // VP 0 ks x }) W=>cd=.ret∧RgX name R ks (w.heap.size+1+1) W9 (pre.map (fun y:{ x:Nat // VP 0 ks x }=>y.1)) W)
   (fun(pre:List { x:Nat // VP 0 ks x }) X Y row hh hg hr=>⟨hh.1.grown hg (fun k e=>.inr (by have:=(hr k e).1;omega)),hh.2⟩)
   (fun _ (pre:List { x:Nat // VP 0 ks x }) X Y row hh hg hr=>by
    obtain⟨h0,done,t,ts,oV,a1,a2,a3,a4,a5,a6⟩:=hh
    refine⟨h0,done,t,ts,oV,a1,a2,a3,a4,a5.grown hg (fun k e=>.inr (by have:=(hr k e).1;omega)),a6.grown hg (fun e=>?_)⟩
    have:=(hr _ e).1
    have:=HW3.out
    omega)
   ⟨Fr.refl _ _,fun y hy=>(nomatch hy)⟩
   (fun x a' W=>a'={ tmps:=#[.slice (some ⟨g,0,none⟩) R.length c,.string ⟨name.toArray⟩,.pointer (some ⟨w.heap.size,0,none⟩),.pointer (some ⟨w.heap.size+1,0,none⟩),.pointer (some ⟨w.heap.size+1+1,0,none⟩),.pointer (some ⟨w3.heap.size,0,none⟩),.int .i64 (x.1:Int),.slice (some ⟨g,0,none⟩) R.length c,.agg #[.int .i64 0,.int .i64 fat],.int .i64 0,.bool false,.slice (some ⟨g,0,none⟩) R.length c,.pointer (some ⟨bp,0,none⟩),.slice (some ⟨g,0,none⟩) R.length c,.func (.func 30) #[] #[.pointer (some ⟨w3.heap.size+1+1,0,none⟩),.pointer (some ⟨w3.heap.size+1,0,none⟩)],.int .i64 (x.1:Int),undef,undef,undef,undef,undef,undef,undef,undef,undef,undef,undef,undef,undef,undef,undef,undef,undef,undef],defers:=[] })
   (fun x a' _ X Y row hs hg hr=>hs)
   ?assign ?body ?done ?stop
  case assign =>
   rintro l pre x W K hi hK
   gi_wp2
   exact hK _ _ ((KeepsOthers.refl _).from _) (fun k _ o h1 _=>h1) hi rfl
  case body =>
   rintro l pre x a' W hl _ hi rfl hlt;obtain⟨done,t,ts,hks,hxp⟩:=x.2
   obtain⟨nd,hnd⟩:=VP.node hT x.2
   have hR1:=(bJ hT).1
   have hdr:R.drop x.1=t.row++(rows ts++[]):=by
    rw[hxp,←List.drop_drop,hR1,hks,dh];simp[rows]
   have Xh:isFn name nd=isFn name t.n:=by
    obtain⟨a1,a2⟩:=t
    have h3:=(bJ hdr).2;rw[hnd]at h3
    cases h3;rfl
   have hfr:=(Xg.trans jC).trans hi.1;obtain⟨b0c,b0z,b0s,b0l⟩:=(hB0.fr hfr (by simp)).rules
   obtain⟨b1c,b1z,b1s,b1l⟩:=(hB1.fr hfr (by simp)).rules
   have acn:=hBc.fr (jC.trans hi.1) (by simp);have KI:=xV.fr ((hfw.trans jC).trans hi.1) (by simp);have cB:=KI.cells x.1 nd hnd;have n0:W.cell? ⟨g,x.1*6,none⟩=some (.int .i64 nd.kind):=cB 0 (by omega);have n3:W.cell? ⟨g,x.1*6+3,none⟩=some (.string ⟨nd.text.toArray⟩):=cB 3 (by omega);have hxl:(x.1:Int)<R.length:=by have:=(List.getElem?_eq_some_iff.1 hnd).1;omega
   have hgW:=KI.gl;have HNF:=Lib.hid Xh;have HND:=Lib.hid hnd;have Ri:=Lib.hid hks;have HXP:=Lib.hid hxp;clear cB Xh hnd hks hxp;by_cases hk:(nd.kind==3)=true
   ·have hk':nd.kind=3:=by simpa using hk
    have HK':=Lib.hid hk';rw[hk']at n0
    clear hk hk';cases htx:(nd.text==name)
    ·skip
     gi_wp2
     have hS:(fun X:World=>X=W.drew) W.drew:=rfl;apply dY (S:=fun X:World=>X=W.drew)
     case hm=>kernel_rfl
     case hd=>kernel_rfl
     case h =>
      refine tkn 0 (.slice (some ⟨g,0,none⟩) R.length c) rfl hS (fun X hX=>?_) ?_
      ·obtain rfl:=hX;go_simp
      simp only[Act.put,acts];refine tkn 1 (.int .i64 (x.1:Int)) rfl hS (fun X hX=>?_) ?_
      ·obtain rfl:=hX;go_simp
      simp only[Act.put,acts];refine tkn 2 (.pointer (some ⟨g,x.1*6,none⟩)) rfl hS (fun X hX=>?_) ?_
      ·obtain rfl:=hX;go_simp
      simp only[Act.put,acts];refine tkn 3 (.pointer (some ⟨g,x.1*6,none⟩)) rfl hS (fun X hX=>?_) ?_
      ·obtain rfl:=hX;go_simp
      simp only[Act.put,acts];refine tkn 4 (.int .i64 3) rfl hS (fun X hX=>?_) ?_
      ·obtain rfl:=hX;go_simp
      simp only[Act.put,acts];refine tkn 5 (.bool true) rfl hS (fun X hX=>?_) ?_
      ·obtain rfl:=hX;go_simp
      simp only[Act.put,acts];refine tkn 6 (.bool true) rfl hS (fun X hX=>?_) ?_
      ·obtain rfl:=hX;go_simp
      simp only[Act.put,acts];refine tkn 7 (.slice (some ⟨g,0,none⟩) R.length c) rfl hS (fun X hX=>?_) ?_
      ·obtain rfl:=hX;go_simp
      simp only[Act.put,acts];refine tkn 8 (.int .i64 (x.1:Int)) rfl hS (fun X hX=>?_) ?_
      ·obtain rfl:=hX;go_simp
      simp only[Act.put,acts];refine tkn 9 (.pointer (some ⟨g,x.1*6,none⟩)) rfl hS (fun X hX=>?_) ?_
      ·obtain rfl:=hX;go_simp
      simp only[Act.put,acts];refine tkn 10 (.pointer (some ⟨g,x.1*6+3,none⟩)) rfl hS (fun X hX=>?_) ?_
      ·obtain rfl:=hX;go_simp
      simp only[Act.put,acts];refine tkn 11 (.string ⟨nd.text.toArray⟩) rfl hS (fun X hX=>?_) ?_
      ·obtain rfl:=hX;go_simp
      simp only[Act.put,acts];refine tkn 12 (.string ⟨name.toArray⟩) rfl hS (fun X hX=>?_) ?_
      ·obtain rfl:=hX;go_simp
      simp only[Act.put,acts];refine tkn 13 (.bool false) rfl hS (fun X hX=>?_) ?_
      ·obtain rfl:=hX;go_simp;first|done|(rw[htx])|simp[htx]
      simp only[Act.put,acts];refine tkn 14 (.bool false) rfl hS (fun X hX=>?_) ?_
      ·obtain rfl:=hX;go_simp
      simp only[Act.put,acts];exact wpAnyH_done (by kernel_rfl) ⟨rfl,rfl,rfl⟩ _
     case hK =>
      gi_wp2
      refine⟨KeepsFrom.of_grownBy (jW (Fr.refl [] _).drew) (fun j e=>by cases e),nH.aC (Fr.refl _ _).drew,hi.1.trans (Fr.refl _ _).drew,fun y hy nd2 KU=>?_⟩;replace hy:y∈pre.map (·.1)++[x.1]:=by simpa using hy
      rcases List.mem_append.1 hy with hy|hy
      ·exact hi.2 y hy nd2 KU
      ·obtain rfl:y=x.1:=by simpa using hy
       rw[HND.out]at KU
       cases KU;show(nd.kind==3&&nd.text==name)=false;rw[htx];simp
    ·skip
     gi_wp2
     have hS:(fun X:World=>X=W.drew) W.drew:=rfl;apply dY (S:=fun X:World=>X=W.drew)
     case hm=>kernel_rfl
     case hd=>kernel_rfl
     case h =>
      refine tkn 0 (.slice (some ⟨g,0,none⟩) R.length c) rfl hS (fun X hX=>?_) ?_
      ·obtain rfl:=hX;go_simp
      simp only[Act.put,acts];refine tkn 1 (.int .i64 (x.1:Int)) rfl hS (fun X hX=>?_) ?_
      ·obtain rfl:=hX;go_simp
      simp only[Act.put,acts];refine tkn 2 (.pointer (some ⟨g,x.1*6,none⟩)) rfl hS (fun X hX=>?_) ?_
      ·obtain rfl:=hX;go_simp
      simp only[Act.put,acts];refine tkn 3 (.pointer (some ⟨g,x.1*6,none⟩)) rfl hS (fun X hX=>?_) ?_
      ·obtain rfl:=hX;go_simp
      simp only[Act.put,acts];refine tkn 4 (.int .i64 3) rfl hS (fun X hX=>?_) ?_
      ·obtain rfl:=hX;go_simp
      simp only[Act.put,acts];refine tkn 5 (.bool true) rfl hS (fun X hX=>?_) ?_
      ·obtain rfl:=hX;go_simp
      simp only[Act.put,acts];refine tkn 6 (.bool true) rfl hS (fun X hX=>?_) ?_
      ·obtain rfl:=hX;go_simp
      simp only[Act.put,acts];refine tkn 7 (.slice (some ⟨g,0,none⟩) R.length c) rfl hS (fun X hX=>?_) ?_
      ·obtain rfl:=hX;go_simp
      simp only[Act.put,acts];refine tkn 8 (.int .i64 (x.1:Int)) rfl hS (fun X hX=>?_) ?_
      ·obtain rfl:=hX;go_simp
      simp only[Act.put,acts];refine tkn 9 (.pointer (some ⟨g,x.1*6,none⟩)) rfl hS (fun X hX=>?_) ?_
      ·obtain rfl:=hX;go_simp
      simp only[Act.put,acts];refine tkn 10 (.pointer (some ⟨g,x.1*6+3,none⟩)) rfl hS (fun X hX=>?_) ?_
      ·obtain rfl:=hX;go_simp
      simp only[Act.put,acts];refine tkn 11 (.string ⟨nd.text.toArray⟩) rfl hS (fun X hX=>?_) ?_
      ·obtain rfl:=hX;go_simp
      simp only[Act.put,acts];refine tkn 12 (.string ⟨name.toArray⟩) rfl hS (fun X hX=>?_) ?_
      ·obtain rfl:=hX;go_simp
      simp only[Act.put,acts];refine tkn 13 (.bool true) rfl hS (fun X hX=>?_) ?_
      ·obtain rfl:=hX;go_simp;first|done|(rw[htx])|simp[htx]
      simp only[Act.put,acts];refine tkn 14 (.bool true) rfl hS (fun X hX=>?_) ?_
      ·obtain rfl:=hX;go_simp
      simp only[Act.put,acts];exact wpAnyH_done (by kernel_rfl) ⟨rfl,rfl,rfl⟩ _
     case hK =>
      have Il:=uo ⟨R,Dy (.mk n ks) true,bp,g,c,mg,mp,ma,w2.heap.size,w2⟩ (by have:=kg (Tree.mk n ks);show R.length≤_;rw[HRR.out,this];omega) t.n t.ks (rows ts++[]) x.1 W.drew (by show R.drop x.1=_;rw[hdr];cases t;rfl) (by have h9:=Xe t (by rw[Ri.out];simp);cases t;exact h9) (acg t (by rw[Ri.out];simp) (by have:=HNF.out;unfold isFn at this;rw[HK'.out,htx]at this;simp at this;exact this.1)) (by have:=ach t (by rw[Ri.out];simp);cases t;simp only[Tree.n,Tree.ks];omega) (hK.hw.fr (((hfc.trans jC).trans hi.1).trans (Fr.refl _ _).drew) (by simp) (by simp))
      have Xi:Calls Tryz.prog 19 #[.pointer (some ⟨bp,0,none⟩),.int .i64 (x.1:Int)] W.drew fun e w'=>e=.returned (.int .i64 (registers t:Nat))∧Fr [] W.drew w':=by
       have h9:=Il;obtain⟨ta,tb⟩:=t
       exact h9
      clear Il;obtain⟨bcc,bcz,bcs,bcl⟩:=(acn.fr (Fr.refl [] _).drew (by simp)).rules
      clear b0c b0z b0s b0l b1c b1z b1s b1l
      gi_wp2_with (refine⟨trivial,?_⟩;gi_at_call 19;refine(CallsIn.inRound l (callsIn_wide.2 Xi)).mono ?_;rintro e w5 ⟨rfl,fF⟩;obtain⟨b2c,b2z,b2s,Va⟩:=(hB2.fr ((hfr.trans (Fr.refl _ _).drew).trans fF) (by simp)).rules)
      refine⟨KeepsFrom.trans (KeepsFrom.of_grownBy (jW ((Fr.refl [] W).drew.trans fF)) (fun j e=>by cases e)) (KeepsFrom.of_grownBy (grownBy_putObj' w5 (w.heap.size+1+1) (.cells #[.int .i64 (registers t:Nat)] 3)) (fun j e=>by injection e with e;have:=HW3.out;omega)),rfl,done,t,ts,pre.map (·.1),Ri.out,by rw[List.map_append];simp[HXP.out],hi.2,?_,?_,?_⟩
      ·rw[←HNF.out];unfold isFn;rw[HK'.out,htx];rfl
      ·exact Fr.blk (((hi.1.trans (Fr.refl _ _).drew).trans fF).nil) (.inl (by simp)) _ _
      ·exact au.blk Va
   ·have hk':(nd.kind==3)=false:=by simpa using hk
    gi_wp2
    have hS:(fun X:World=>X=W.drew) W.drew:=rfl;apply dY (S:=fun X:World=>X=W.drew)
    case hm=>kernel_rfl
    case hd=>kernel_rfl
    case h =>
     refine tkn 0 (.slice (some ⟨g,0,none⟩) R.length c) rfl hS (fun X hX=>?_) ?_
     ·obtain rfl:=hX;go_simp
     simp only[Act.put,acts];refine tkn 1 (.int .i64 (x.1:Int)) rfl hS (fun X hX=>?_) ?_
     ·obtain rfl:=hX;go_simp
     simp only[Act.put,acts];refine tkn 2 (.pointer (some ⟨g,x.1*6,none⟩)) rfl hS (fun X hX=>?_) ?_
     ·obtain rfl:=hX;go_simp
     simp only[Act.put,acts];refine tkn 3 (.pointer (some ⟨g,x.1*6,none⟩)) rfl hS (fun X hX=>?_) ?_
     ·obtain rfl:=hX;go_simp
     simp only[Act.put,acts];refine tkn 4 (.int .i64 nd.kind) rfl hS (fun X hX=>?_) ?_
     ·obtain rfl:=hX;go_simp
     simp only[Act.put,acts];refine tkn 5 (.bool false) rfl hS (fun X hX=>?_) ?_
     ·obtain rfl:=hX;go_simp;first|done|(rw[hk'])
     simp only[Act.put,acts];refine tkn 6 (.bool false) rfl hS (fun X hX=>?_) ?_
     ·obtain rfl:=hX;go_simp
     simp only[Act.put,acts];refine wpAnyH_take (i:=7) (v:=undef) rfl (by kernel_rfl) (by kernel_rfl) (by kernel_rfl) (fun _ _ _ h=>(nomatch h.1)) (Or.inr ⟨by kernel_rfl,rfl⟩) hS ?_;simp only[Act.put,acts];refine wpAnyH_take (i:=8) (v:=undef) rfl (by kernel_rfl) (by kernel_rfl) (by kernel_rfl) (fun _ _ _ h=>(nomatch h.1)) (Or.inr ⟨by kernel_rfl,rfl⟩) hS ?_;simp only[Act.put,acts];refine wpAnyH_take (i:=9) (v:=undef) rfl (by kernel_rfl) (by kernel_rfl) (by kernel_rfl) (fun _ _ _ h=>(nomatch h.1)) (Or.inr ⟨by kernel_rfl,rfl⟩) hS ?_;simp only[Act.put,acts];refine wpAnyH_take (i:=10) (v:=undef) rfl (by kernel_rfl) (by kernel_rfl) (by kernel_rfl) (fun _ _ _ h=>(nomatch h.1)) (Or.inr ⟨by kernel_rfl,rfl⟩) hS ?_;simp only[Act.put,acts];refine wpAnyH_take (i:=11) (v:=undef) rfl (by kernel_rfl) (by kernel_rfl) (by kernel_rfl) (fun _ _ _ h=>(nomatch h.1)) (Or.inr ⟨by kernel_rfl,rfl⟩) hS ?_;simp only[Act.put,acts];refine wpAnyH_take (i:=12) (v:=undef) rfl (by kernel_rfl) (by kernel_rfl) (by kernel_rfl) (fun _ _ _ h=>(nomatch h.1)) (Or.inr ⟨by kernel_rfl,rfl⟩) hS ?_;simp only[Act.put,acts];refine wpAnyH_take (i:=13) (v:=undef) rfl (by kernel_rfl) (by kernel_rfl) (by kernel_rfl) (fun _ _ _ h=>(nomatch h.1)) (Or.inr ⟨by kernel_rfl,rfl⟩) hS ?_;simp only[Act.put,acts];refine tkn 14 (.bool false) rfl hS (fun X hX=>?_) ?_
     ·obtain rfl:=hX;go_simp
     simp only[Act.put,acts];exact wpAnyH_done (by kernel_rfl) ⟨rfl,rfl,rfl⟩ _
    case hK =>
     gi_wp2
     refine⟨KeepsFrom.of_grownBy (jW (Fr.refl [] _).drew) (fun j e=>by cases e),nH.aC (Fr.refl _ _).drew,hi.1.trans (Fr.refl _ _).drew,fun y hy nd2 KU=>?_⟩;replace hy:y∈pre.map (·.1)++[x.1]:=by simpa using hy
     rcases List.mem_append.1 hy with hy|hy
     ·exact hi.2 y hy nd2 KU
     ·obtain rfl:y=x.1:=by simpa using hy
      rw[HND.out]at KU
      cases KU;show(nd.kind==3&&nd.text==name)=false;rw[hk'];simp
  case done =>
   rintro D xs W hD hS hi hK;have hx2:xs.map (·.1)=kpos 1 ks:=hS;rw[hx2]at hi
   have hfind:=Qx hT hi;have hr0:=Qz.out;rw[hfind]at hr0
   have hr0:0=rr:=hr0;subst hr0;have h2W:=(hB2.fr ((Xg.trans jC).trans hi.1) (by simp))
   obtain⟨b2c,b2z,b2s,Va⟩:=h2W.rules
   gi_wp2
   have hDb:w.heap.size+1+1<D:=by have:=HW3.out;omega
   have Nq:(Ck.blk W (w.heap.size+1+1) #[.int .i64 0] 3).heap[D]? = some (.deferred (some [])):=(bH (by omega)).trans hK;refine⟨by simp,.inl ⟨_,_,rfl,run_takeDeferred Nq,?_⟩⟩;have uh:au ((Ck.blk W (w.heap.size+1+1) #[.int .i64 0] 3).putObj D (.deferred none)) (w.heap.size+1+1) #[.int .i64 0] 3:=(au.blk Va).grown (grownBy_putObj' _ D _) (fun e=>by injection e with e;omega);obtain⟨qc,qz,bS,qb⟩:=uh.rules
   have hfin:Fr [] w ((Ck.blk W (w.heap.size+1+1) #[.int .i64 0] 3).putObj D (.deferred none)):=(Fr.blk ((hfw.trans jC).trans hi.1) (.inr (by show w.heap.size≤w.heap.size+1+1;omega)) _ _).grown (grownBy_putObj' _ D _) (fun k e=>.inr (by injection e with e;omega));simp[LeavesInM,LeavesIn,results,Tryz.results9,go_sem,qc];exact hfin
  case stop =>
   rintro D c pre W hD hSp ⟨rfl,hi⟩ hK;obtain⟨t,hfind,h1,h2⟩:=Qw hT hSp hi
   have hr0:=Qz.out;rw[hfind]at hr0
   have hr0:registers t=rr:=hr0;subst hr0;have hDb:w.heap.size+1+1<D:=by have:=HW3.out;omega
   gi_wp2
   refine⟨by simp,.inl ⟨_,_,rfl,run_takeDeferred hK,?_⟩⟩;have uh:au (W.putObj D (.deferred none)) (w.heap.size+1+1) #[.int .i64 (registers t:Nat)] 3:=h2.grown (grownBy_putObj' _ D _) (fun e=>by injection e with e;omega);obtain⟨qc,qz,bS,qb⟩:=uh.rules
   have hfin:Fr [] w (W.putObj D (.deferred none)):=by
    exact((hfw.trans jC).then h1 (fun x hx=>.inr (by simp at hx;omega))).grown (grownBy_putObj' _ D _) (fun k e=>.inr (by injection e with e;omega))
   simp[LeavesInM,LeavesIn,results,Tryz.results9,go_sem,qc];exact hfin
end Go.Proofs.YtoomapkcoibmhaaGreatDoor
end
