/- A part of the proof. -/
import Derived.Test.YtoomapkcoibmhaaGreatDoorQ13
import Derived.Test.YtoomapkcoibmhaaGreatDoorQ21
set_option maxRecDepth 100000
set_option maxHeartbeats 12800000
set_option linter.all false
section
open Go Go.Proofs Go.RowKit Go.Shelf Ck
namespace Ck
def kpos:Nat→List Tree→List Nat
 | _,[]=>[]
 | p,t::l=>p::kpos (p+t.row.length) l
theorem kT:∀(l:List Tree) (p:Nat),(kpos p l).length=l.length
 | [],_=>rfl
 | t::l,p=>by simp[kpos,kT l]
theorem dh (a b:List Tree):rows (a++b)=rows a++rows b:=by
 induction a with
 | nil=>rfl
 | cons t a ih=>simp[rows,ih]
theorem iN:∀(a b:List Tree) (p:Nat),kpos p (a++b)=kpos p a++kpos (p+(rows a).length) b
 | [],b,p=>by simp[kpos,rows]
 | t::a,b,p=>by
  simp only[List.cons_append,kpos,rows,iN a b,List.length_append];rw[Nat.add_assoc]
theorem eZ (ks:List Tree):ks.length≤(rows ks).length:=by
 induction ks with
 | nil=>simp
 | cons t l ih =>
  have:1≤t.row.length:=by cases t;simp[Tree.row]
  simp only[rows,List.length_append,List.length_cons];omega
theorem AA (t:Tree):t.row≠[]:=by cases t;simp[Tree.row]
end Ck
namespace Go.Proofs.YtoomapkcoibmhaaGreatDoor
attribute [local go_sem] Oper.semAt_some
def nH (S:List Nat) (W W':World):Prop:=∀k∈S,∀o,W.heap[k]? = some o→o.isCells=true→W'.heap[k]? = some o
theorem Fq {S:List Nat} {A B C:World} (h:nH S A B) (k:nH S B C):nH S A C:=fun x hx o h1 h2=>k x hx o (h x hx o h1 h2) h2
theorem Fu {S:List Nat} (W:World) (l:Nat) (o o':Obj) (h:W.heap[l]? = some o) (hc:o.isCells=false):nH S W (W.putObj l o'):=fun k _ u h1 h2=>by
 have hne:k≠l:=fun e=>by
  subst e;rw[h1]at h
  cases h;rw[h2]at hc;cases hc
 exact(World.putObj_heap_other hne).trans h1
theorem nH.aC {S:List Nat} {W W':World} (h:Fr [] W W'):nH S W W':=fun k _ o h1 _=>(h.block k (Array.getElem?_eq_some_iff.1 h1).1 (by simp)).trans h1
theorem Fv {w:World} {p:Addr} {v:Value} (hc:w.cell? p=some v):∃o,w.heap[p.block]? = some o∧o.isCells=true:=by
 unfold World.cell? at hc;cases he:w.heap[p.block]? with
 | none=>simp[he]at hc
 | some o =>
  refine⟨o,rfl,?_⟩;rw[he]at hc
  cases o<;>simp_all[Obj.isCells]
structure lX (R:List Ck.Node) (g c i Bi Bl:Nat) (W:World):Prop where
 bi:au W Bi #[.int .i64 i] 3
 bl:au W Bl #[.slice (some ⟨g,0,none⟩) R.length c] 23
 gl:g<W.heap.size
 cells:∀j n,R[j]? = some n→∀k,k<6→W.cell? ⟨g,j*6+k,none⟩=(tZ n)[k]?
theorem lX.fr {R:List Ck.Node} {g c i Bi Bl:Nat} {W W':World} (h:lX R g c i Bi Bl W) (hf:Fr [] W W'):lX R g c i Bi Bl W' :=
 ⟨h.bi.fr hf (by simp),h.bl.fr hf (by simp),hf.lt h.gl,fun j n hn k hk=>(hf.nQ (p:=⟨g,j*6+k,none⟩) h.gl (by simp)).trans (h.cells j n hn k hk)⟩
theorem lX.keep {R:List Ck.Node} {g c i Bi Bl:Nat} {W W':World} (h:lX R g c i Bi Bl W) (hR:R≠[]) (hk:nH [Bi,Bl,g] W W'):lX R g c i Bi Bl W':=by
 obtain⟨n,R',rfl⟩:∃n R',R=n::R':=by cases R with|nil=>exact absurd rfl hR|cons n R'=>exact⟨n,R',rfl⟩
 have h0:=h.cells 0 n rfl 0 (by omega);obtain⟨o,ho1,ho2⟩:=Fv (w:=W) (p:=⟨g,0*6+0,none⟩) (v:=.int .i64 n.kind) (by rw[h0];rfl)
 have hg:=hk g (by simp) o ho1 ho2;refine⟨hk Bi (by simp) _ h.bi rfl,hk Bl (by simp) _ h.bl rfl,(Array.getElem?_eq_some_iff.1 hg).1,fun j m hm k hk'=>?_⟩;rw[←h.cells j m hm k hk'];exact World.cell?_of_block (hg.trans ho1.symm)
theorem Pp (n:Nat) (hn:1≤n) (l Bi Bl:Nat) (R rest:List Ck.Node) (i g c:Nat) (m:Ck.Node) (ks:List Tree) (hT:R.drop i=(Tree.mk m ks).row++rest) (hlim:R.length≤1099511627776) (J Jx:List Nat→World→Prop)
  (hY:∀(pre:List Nat) (x:Nat) W,J pre W→pre.length<1099511627777→YieldAt Fence.wide (n-1) Tryz.prog l #[.int .i64 x] W fun e W' =>
   (e=.returned (.bool true)∧J (pre++[x]) W'∧nH [Bi,Bl,g] W W')∨(e=.returned (.bool false)∧Jx (pre++[x]) W'))
  (hJ:∀pre W W',J pre W→Fr [] W W'→J pre W')
  (W:World) (hB:lX R g c i Bi Bl W) (h0:J [] W) :
  CallsIn Fence.wide n Tryz.prog 30 #[.func (.yield l) #[] #[],.pointer (some ⟨Bi,0,none⟩),.pointer (some ⟨Bl,0,none⟩)] W fun e W'=>(∃v,e=.returned v) ∧
   ((∃xs,xs=kpos (i+1) ks∧J xs W')∨(∃pre,pre <+: kpos (i+1) ks∧Jx pre W')):=by
 have hil:i<R.length:=by
  rcases Nat.lt_or_ge i R.length with h|h
  ·exact h
  ·rw[List.drop_eq_nil_of_le h]at hT;simp[Tree.row]at hT
 have hR0:R≠[]:=fun e=>by rw[e]at hil;simp at hil
 have VE:R[i]? = some { m with kids:=(ks.length:Int) }:=by
  have:=congrArg (fun l=>l[0]?) hT
  simpa[Tree.row]using this
 have hdr:R.drop (i+1)=rows ks++rest:=by
  have:=congrArg List.tail hT
  simpa[Tree.row,List.tail_drop]using this
 obtain⟨bc,bz,Fw,bb⟩:=hB.bi.rules
 obtain⟨lc,lz,pW,lb⟩:=hB.bl.rules
 have hlen:(R.length:Int)≤9223372036854775807:=by omega
 have hd1:decide (R.length≤i)=false:=by simpa using hil
 have hd2:decide ((i:Int)<0)=false:=by simp
 have Pq:=Lib.hid hlim;have HRI:=Lib.hid VE;have HDR:=Lib.hid hdr;have HB:=Lib.hid hB;clear hlim VE hdr hT hB;refine callsIn_of_wp Tryz.func30 rfl trivial ?_ rfl;simp only[Tryz.ntmps30,List.size_toArray,List.length_cons,List.length_nil,Nat.reduceAdd,Nat.reduceSub,Array.replicate_succ,Array.replicate_zero,List.push_toArray,List.append_toArray,List.nil_append,List.cons_append]
 gi_wp2
 gi_loopw [4,5,6] (fun at' k _op wr=>∃(p j:Nat),at'=.int .i64 p∧k=.int .i64 j∧p≤R.length∧Hid (∃(done ts:List Tree),ks=done++ts∧done.length=j∧R.drop p=rows ts++rest∧p=i+1+(rows done).length∧J (kpos (i+1) done) wr∧lX R g c i Bi Bl wr)) (fun at' _ _ _=>R.length-(intOf at').toNat)
 case atStart=>exact⟨i+1,0,by go_num,rfl,by omega,[],ks,rfl,rfl,HDR.out,by simp[rows],h0,HB.out⟩
 case round =>
  obtain⟨p,j,rfl,rfl,hp,hq⟩:=hrel
  obtain⟨done,ts,e1,e2,e3,e4,e5,hB'⟩:=hq.out
  clear hq bc bz Fw bb lc lz pW lb;obtain⟨bc,bz,Fw,bb⟩:=hB'.bi.rules
  obtain⟨lc,lz,pW,lb⟩:=hB'.bl.rules
  have Rb:wr.cell? ⟨g,i*6+2,none⟩=some (.int .i64 (ks.length:Int)):=(hB'.cells i _ HRI.out 2 (by omega)).trans rfl;have hgl:=hB'.gl;have hkl:ks.length=done.length+ts.length:=by rw[e1,List.length_append]
  have HJ:=Lib.hid e5;have HB2:=Lib.hid hB';have E1:=Lib.hid e1;have E2:=Lib.hid e2;have E3:=Lib.hid e3;have E4:=Lib.hid e4;clear e1 e3 e4 e5 hB';cases ts with
  | nil =>
   have hj:¬(j:Int)<ks.length:=by simp at hkl;omega
   clear hkl
   gi_wp2
   go_end0
   exact⟨⟨_,rfl⟩,.inl (by rw[E1.out,List.append_nil];exact HJ.out)⟩
  | cons t ts =>
   have hpl:(p:Int)<R.length:=by
    rcases Nat.lt_or_ge p R.length with h|h
    ·omega
    ·have h3:=E3.out;rw[List.drop_eq_nil_of_le h]at h3
     have h4:=AA t;cases hr:t.row with
     | nil=>exact absurd hr h4
     | cons _ _=>rw[rows,hr]at h3;cases h3
   have hj:(j:Int)<ks.length:=by simp at hkl;omega
   clear hkl;have hpre:=kT done (i+1);obtain⟨fn,tmps,assign,body,hy,RI⟩:=hY (kpos (i+1) done) p wr HJ.out (by have:=Pq.out;have:=E1.out;have hd:done.length≤(rows done).length:=eZ done;have:=E4.out;omega)
   clear hpre
   gi_wp2
   refine RI.mono ?_;rintro e' W3 (⟨rfl,hJ3,hk3⟩|⟨rfl,hJx3⟩)
   ·have hB3:=lX.keep HB2.out hR0 hk3
    gi_wp2
    gi_loopw [4,6] (fun at' op wr=>∃(q o:Nat),at'=.int .i64 q∧op=.int .i64 o∧q≤R.length∧p≤q∧Hid (∃stk:List Tree,stk.length=o∧R.drop q=rows stk++(rows ts++rest)∧q+(rows stk).length=p+t.row.length∧J (kpos (i+1) done++[p]) wr∧lX R g c i Bi Bl wr)) (fun at' _ _=>R.length-(intOf at').toNat)
    case atStart=>exact⟨p,1,rfl,rfl,hp,Nat.le_refl _,[t],rfl,by rw[E3.out];simp[rows],by simp[rows],hJ3,hB3⟩
    case round =>
     clear hB3 hJ3 hk3 RI hy bc bz Fw bb lc lz pW lb Rb HB2 HJ;obtain⟨q,o,rfl,rfl,hq1,hpq,hq⟩:=hrel
     obtain⟨stk,f1,f2,f3,f4,f5⟩:=hq.out
     clear hq;obtain⟨bc,bz,Fw,bb⟩:=f5.bi.rules
     obtain⟨lc,lz,pW,lb⟩:=f5.bl.rules
     have hgl:=f5.gl;cases stk with
     | nil =>
      obtain rfl:o=0:=by simpa using f1.symm
      have hE:Hid (∃(done ts:List Tree),ks=done++ts∧done.length=j+1∧R.drop q=rows ts++rest∧q=i+1+(rows done).length∧J (kpos (i+1) done) wr∧lX R g c i Bi Bl wr) :=
       ⟨done++[t],ts,by rw[E1.out];simp,by simp[e2],by simpa[rows]using f2,by have:=E4.out;simp[rows]at f3;rw[dh];simp[rows];omega,by rw[iN];simpa[kpos,E4.out]using f4,f5⟩
      have U7:Hid (q=p+t.row.length):=by show _=_;simpa[rows]using f3
      have htl:1≤t.row.length:=by cases t;simp[Tree.row]
      have hjR:(j:Int)+1≤9223372036854775807:=by
       have h1:=eZ done
       have:=E4.out
       omega
      clear f1 f2 f3 f4 f5
      gi_wp2
      have hqq:=U7.out;exact⟨⟨q,j+1,rfl,by go_num,hq1,hE⟩,by simp[intOf];omega⟩
     | cons u stk =>
      obtain⟨un,us⟩:=u
      have hu:R[q]? = some { un with kids:=(us.length:Int) }:=by
       have:=congrArg (fun l=>l[0]?) f2
       simpa[Tree.row,rows]using this
      have hu2:R.drop (q+1)=rows (us++stk)++(rows ts++rest):=by
       have:=congrArg List.tail f2
       simpa[Tree.row,rows,dh,List.tail_drop]using this
      have U7:(q:Int)<R.length:=by
       have:=(List.getElem?_eq_some_iff.1 hu).1;omega
      have Rb:wr.cell? ⟨g,q*6+2,none⟩=some (.int .i64 (us.length:Int)):=(f5.cells q _ hu 2 (by omega)).trans rfl
      have aa2:(us.length:Int)≤R.length:=by
       have h1:=eZ us;have h2:=congrArg List.length hu2;rw[dh]at h2
       simp only[List.length_drop,List.length_append]at h2;omega
      have ho:o=stk.length+1:=by simpa using f1.symm
      have VF:Hid (∃AB:List Tree,AB.length=us.length+stk.length∧R.drop (q+1)=rows AB++(rows ts++rest)∧q+1+(rows AB).length=p+t.row.length∧J (kpos (i+1) done++[p]) wr.drew∧lX R g c i Bi Bl wr.drew) :=
       ⟨us++stk,by simp,hu2,by rw[dh];simp[rows,Tree.row]at f3 ⊢;omega,hJ _ _ _ f4 (Fr.refl _ _).drew,f5.fr (Fr.refl _ _).drew⟩
      have hsl:(stk.length:Int)≤R.length:=by
       have h1:=eZ stk;have h2:=congrArg List.length hu2;rw[dh]at h2
       simp only[List.length_drop,List.length_append]at h2;omega
      clear hu hu2 f1 f2 f3 f4 f5;subst ho
      gi_wp2
      gi_region
      all_goals gi_wp2
      have hmin:min (us.length:Int) (R.length:Int)=us.length:=by omega
      have aa3:=Pq.out;exact⟨⟨q+1,us.length+stk.length,by go_num,by rw[hmin];unfold wrap64;congr 1;omega,by omega,by omega,VF⟩,by simp[intOf];omega⟩
   ·gi_wp2
    refine bodyPost_ret (results_none rfl _ _ _) rfl ⟨⟨_,rfl⟩,.inr ⟨_,?_,hJx3⟩⟩;rw[E1.out,iN,←E4.out,kpos];exact⟨kpos (p+t.row.length) ts,by simp⟩
theorem J3 (n:Nat) (hn:1≤n) (Bi Bl:Nat) (R rest:List Ck.Node) (i g c:Nat) (m:Ck.Node) (ks:List Tree) (hT:R.drop i=(Tree.mk m ks).row++rest) (hlim:R.length≤1099511627776) (w:World) (hB:lX R g c i Bi Bl w) :
  SeqStopsK Fence.wide n Tryz.prog 30 #[.pointer (some ⟨Bi,0,none⟩),.pointer (some ⟨Bl,0,none⟩)] (fun x:Nat=>#[.int .i64 (x:Int)]) (nH [Bi,Bl,g]) (fun xs=>xs=kpos (i+1) ks) (fun pre=>pre <+: kpos (i+1) ks) 1099511627777 w:=fun l J Jx W hW hJ _ hY h0 =>
 Pp n hn l Bi Bl R rest i g c m ks hT hlim J Jx hY (fun pre A C ha hf=>hJ pre A C none ha (jW hf) (fun r e=>by cases e)) W (hB.fr (Fr.of_below hW)) h0
theorem xD (n:Nat) (R:List Ck.Node) (i g c:Nat) (w:World) :
  CallsIn Fence.wide n Tryz.prog 18 #[.slice (some ⟨g,0,none⟩) R.length c,.int .i64 i] w fun e w'=>e=.returned (.func (.func 30) #[] #[.pointer (some ⟨w.heap.size+1,0,none⟩),.pointer (some ⟨w.heap.size,0,none⟩)])∧w'=(w.alloc (.cells #[.slice (some ⟨g,0,none⟩) R.length c] 23)).alloc (.cells #[.int .i64 i] 3):=by
 refine callsIn_wide.2 ?_;go_enter Tryz.func18,Tryz.ntmps18;go_wp2;go_ret;exact⟨rfl,rfl⟩
def gM (l:List Nat):List Value:=l.map fun(x:Nat)=>Value.int .i64 (x:Int)
structure CI (w:World) (l:List Nat) (W:World):Prop where
 row:∃v,au W w.heap.size #[v] 36∧W.ownsRow (w.heap.size+1) 3 1 v l.length (gM l)
 fr:Fr [] w W
theorem CI.kept {w:World} {l:List Nat} {W W':World} {row:Option Nat} (h:CI w l W) (hg:W.grownBy W' row)
  (hr:∀k,row=some k→w.heap.size≤k∧(W.heap[k]?.map Obj.isCells=some false∨W.heap.size≤k)):CI w l W':=by
 obtain⟨⟨v,h1,h2⟩,h3⟩:=h
 have hr':=fun k e=>(hr k e).2
 exact⟨⟨v,au.qm h1 hg hr',bR h2 hg hr'⟩,h3.grown hg (fun k e=>.inr (hr k e).1)⟩
theorem C8 (Bi Bl:Nat) (R rest:List Ck.Node) (i g c:Nat) (m:Ck.Node) (ks:List Tree) (hT:R.drop i=(Tree.mk m ks).row++rest) (hlim:R.length≤1099511627776) (w:World) (hB:lX R g c i Bi Bl w) :
  Calls Tryz.prog 65 #[.slice none 0 0,.func (.func 30) #[] #[.pointer (some ⟨Bi,0,none⟩),.pointer (some ⟨Bl,0,none⟩)]] w fun e w'=>∃v,e=.returned v∧w'.ownsRow w.heap.size 3 1 v ks.length (gM (kpos (i+1) ks))∧Fr [] w w':=by
 have aea:Bi<w.heap.size∧Bl<w.heap.size∧g<w.heap.size:=⟨hB.bi.lt,hB.bl.lt,hB.gl⟩
 refine(callsIn_wide (n:=3)).1 ?_
 have h1:1≤3:=by omega
 refine callsIn_of_wp_marks Tryz.func65 rfl trivial ?_ rfl;simp only[Tryz.ntmps65,List.size_toArray,List.length_cons,List.length_nil,Nat.reduceAdd,Nat.reduceSub,Array.replicate_succ,Array.replicate_zero,List.push_toArray,List.append_toArray,List.nil_append,List.cons_append]
 gi_wp2
 obtain⟨W0,hW0⟩:∃W0,w.alloc (.cells #[.slice none 0 0] 36)=W0:=⟨_,rfl⟩
 have hI0:CI w [] W0:=by
  rw[←hW0];exact⟨⟨_,au.new w _ _,⟨rfl,.inl ⟨rfl,rfl⟩⟩⟩,(Fr.refl _ _).alloc _⟩
 have hsz:W0.heap.size=w.heap.size+1:=by rw[←hW0];simp
 have hB0:lX R g c i Bi Bl W0:=by rw[←hW0];exact hB.fr ((Fr.refl _ _).alloc _)
 rw[hW0];clear hW0
 refine wpIn_rangeFunc_ownH rfl h1 (gf:=30) (lb:=#[.pointer (some ⟨Bi,0,none⟩),.pointer (some ⟨Bl,0,none⟩)]) rfl trivial (enters_of Tryz.func30 (by kernel_rfl) rfl)
  (J3 (3-1) (by omega) Bi Bl R rest i g c m ks hT hlim W0 hB0) Fq (fun W l o o' _ ho hc _=>Fu W l o o' ho hc) (Below.refl _ _) (fun _=>rfl)
  (fun pre W=>CI w pre W)
  (fun c pre W=>False)
  (fun pre X Y row h hg hr=>h.kept hg (fun k e=>⟨by have:=(hr k e).1;omega,.inl (by obtain⟨_,o,ho,hc⟩:=hr k e;rw[ho];simp[hc])⟩))
  (fun _ pre X Y row h hg hr=>h)
  hI0
  (fun x a' W=>a'={ tmps:=#[.slice none 0 0,.func (.func 30) #[] #[.pointer (some ⟨Bi,0,none⟩),.pointer (some ⟨Bl,0,none⟩)],.pointer (some ⟨w.heap.size,0,none⟩),undef,.slice none 0 0,.int .i64 (x:Int),.func (.func 30) #[] #[.pointer (some ⟨Bi,0,none⟩),.pointer (some ⟨Bl,0,none⟩)],.int .i64 (x:Int),undef,undef,undef,undef,undef],defers:=[] })
  (fun x a' _ X Y row hs hg hr=>hs)
  ?assign ?body ?done ?stop
 case assign =>
  rintro l pre x W K hi hK
  gi_wp2
  exact hK _ _ ((KeepsOthers.refl _).from _) (fun k _ o h1 _=>h1) hi rfl
 case body =>
  rintro l pre x a' W hl _ hi rfl hlt;obtain⟨⟨v,g1,g2⟩,g6⟩:=hi
  obtain⟨rc,rz,bE,rb⟩:=g1.rules
  obtain⟨i0,hi0,hz0,hz1,hz2⟩:=info_parts Tryz.infoInt
  have hlt2:=g2.lt
  gi_wp2_with (refine wpListIn_append_own _ rfl _ _ 36 rfl (w.heap.size+1) 3 i0 _ 1 8 Tryz.underlying36 hi0 hz0 hz1 hz2 rfl (by decide) v pre.length (gM pre) rfl (bR (by simpa using g2) (World.grownBy_alloc W _ none) (fun k e=>by cases e)) ⟨W.heap.size,0,none⟩ 1 1 [.int .i64 (x:Int)] rfl rfl (World.news_of_block (au.new W _ _)) (by simp[Value.oneCell']) (by simp[maxLen];omega) (by omega) (by simp;omega) ?_;intro vt2 w1 hown hg1 hnil;obtain⟨g',cap',rfl⟩:=ownsRow_succ hown;obtain⟨qc,qz,bS,qb⟩:=((g1.alloc _).grown hg1 (fun e=>by have:=(hlt2 _ e).1;omega)).rules)
  have hrow:=bR (by simpa using g2) (World.grownBy_alloc W (.cells #[.int .i64 (x:Int)] 3) none) (fun k e=>by cases e);have TL:au w1 w.heap.size #[v] 36:=(g1.alloc _).grown hg1 (fun e=>by have:=(hlt2 _ e).1;omega);refine⟨KeepsOthers.from (((KeepsOthers.alloc _ _).trans (KeepsOthers.of_grownBy hg1 (fun j o hj ho=>tH hrow j o hj ho))).trans (kD TL)) _,?_,⟨⟨_,au.blk qb,?_⟩,?_⟩⟩
  ·intro k hk o ho _;have hkw:k<w.heap.size:=by simp at hk;rcases hk with rfl|rfl|rfl<;>omega
   have hkW:=(Array.getElem?_eq_some_iff.1 ho).1;rw[bH (by omega),hg1.block k (by simp;omega) (fun e=>by have:=(hlt2 _ e.symm).1;omega)];exact(Below.heap_alloc W _ k hkW).trans ho
  ·have:=eB (b:=w.heap.size) (c:=#[Value.slice (some ⟨g',0,none⟩) (pre.length+1) cap']) (T:=36) hown (by omega)
   simpa[gM]using this
  ·exact((g6.alloc _).grown hg1 (fun k e=>.inr (by have:=(hlt2 _ e).1;omega))).blk (.inr (Nat.le_refl _)) _ _
 case done =>
  rintro D xs W hD rfl hi hK;obtain⟨⟨v,g1,g2⟩,g6⟩:=hi
  obtain⟨x,m',c',rfl⟩:∃x m c,v=.slice x m c:=by rcases g2.2 with⟨rfl,_⟩|⟨g,cap,cur,rfl,_⟩<;>exact⟨_,_,_,rfl⟩
  obtain⟨rc,rz,bE,rb⟩:=g1.rules
  gi_wp2
  refine⟨by simp,.inl ⟨_,_,rfl,run_takeDeferred hK,?_⟩⟩;have Ud:=bR g2 (grownBy_putObj' W D (.deferred none)) (fun k e=>by cases e;exact .inl (by rw[hK];rfl));have hf1:Fr [] w (W.putObj D (.deferred none)):=g6.grown (grownBy_putObj' W D (.deferred none)) (fun k e=>by cases e;exact .inr (by omega));refine⟨_,results_tmp rfl _ _ _,_,rfl,?_,hf1⟩
  have:=gZ Ud (base':=w.heap.size) (by omega)
  rw[kT]at this
  exact this
 case stop =>
  rintro D c pre W hD hSp hi hK;exact hi.elim
theorem G6 (Bi Bl:Nat) (R rest:List Ck.Node) (i g c:Nat) (m:Ck.Node) (ks:List Tree) (hT:R.drop i=(Tree.mk m ks).row++rest) (hlim:R.length≤1099511627776) (w:World) (hB:lX R g c i Bi Bl w) :
  Calls Tryz.prog 33 #[.func (.func 30) #[] #[.pointer (some ⟨Bi,0,none⟩),.pointer (some ⟨Bl,0,none⟩)]] w fun e w'=>∃v,e=.returned v∧w'.ownsRow w.heap.size 3 1 v ks.length (gM (kpos (i+1) ks))∧Fr [] w w':=by
 have hc:=C8 Bi Bl R rest i g c m ks hT hlim w hB;clear hB hT;go_enter Tryz.func33,Tryz.ntmps33
 go_wp2_with (go_at_call 65;refine hc.mono ?_;rintro e w1 ⟨v,rfl,hown,hf⟩)
 go_ret;exact⟨v,rfl,hown,hf⟩
structure J4 (R:List Ck.Node) (g:Nat) (w:World):Prop where
 gl:g<w.heap.size
 cells:∀j n,R[j]? = some n→∀k,k<6→w.cell? ⟨g,j*6+k,none⟩=(tZ n)[k]?
theorem J4.fr {R:List Ck.Node} {g:Nat} {S:List Nat} {w w':World} (h:J4 R g w) (hf:Fr S w w') (hg:g∉S):J4 R g w' :=
 ⟨hf.lt h.gl,fun j n hn k hk=>(hf.nQ (p:=⟨g,j*6+k,none⟩) h.gl hg).trans (h.cells j n hn k hk)⟩
theorem J5 (R:List Ck.Node) (i g c:Nat) (w:World) :
  Calls Tryz.prog 18 #[.slice (some ⟨g,0,none⟩) R.length c,.int .i64 i] w fun e w'=>e=.returned (.func (.func 30) #[] #[.pointer (some ⟨w.heap.size+1,0,none⟩),.pointer (some ⟨w.heap.size,0,none⟩)])∧w'=(w.alloc (.cells #[.slice (some ⟨g,0,none⟩) R.length c] 23)).alloc (.cells #[.int .i64 i] 3) :=
 (callsIn_wide (n:=3)).1 (xD 3 R i g c w)
theorem AJ (R:List Ck.Node) (i g c:Nat) (w:World) (h:J4 R g w):lX R g c i (w.heap.size+1) w.heap.size ((w.alloc (.cells #[.slice (some ⟨g,0,none⟩) R.length c] 23)).alloc (.cells #[.int .i64 i] 3)):=by
 have h2:=h.fr (((Fr.refl [] w).alloc (.cells #[.slice (some ⟨g,0,none⟩) R.length c] 23)).alloc (.cells #[.int .i64 i] 3)) (by simp);refine⟨?_,(au.new w _ _).alloc _,h2.gl,h2.cells⟩
 have:=au.new (w.alloc (.cells #[.slice (some ⟨g,0,none⟩) R.length c] 23)) #[.int .i64 i] 3
 simpa using this
theorem dM (bp:Nat) (R rest:List Ck.Node) (i g c:Nat) (m:Ck.Node) (ks:List Tree) (hT:R.drop i=(Tree.mk m ks).row++rest) (hlim:R.length≤1099511627776) (w:World) (hR:J4 R g w) (cs:Array Value) (hb:au w bp cs 69) (hcs:cs[0]? = some (.slice (some ⟨g,0,none⟩) R.length c)) :
  Calls Tryz.prog 31 #[.pointer (some ⟨bp,0,none⟩),.int .i64 i] w fun e w'=>∃v,e=.returned v∧w'.ownsRow w.heap.size 3 1 v ks.length (gM (kpos (i+1) ks))∧Fr [] w w':=by
 have hc:=G6 (w.heap.size+1) w.heap.size R rest i g c m ks hT hlim _ (AJ R i g c w hR);obtain⟨kc,kz,aH,kb⟩:=hb.rules
 have kc0:w.cell? ⟨bp,0,none⟩=some (.slice (some ⟨g,0,none⟩) R.length c):=(kc 0).trans hcs;clear hT hb hcs kc;go_enter Tryz.func31,Tryz.ntmps31
 go_wp2_with (first|(go_at_call 18;refine(J5 _ _ _ _ _).mono ?_;rintro e w1 ⟨rfl,rfl⟩)|(go_at_call 33;refine hc.mono ?_;rintro e w1 ⟨v,rfl,hown,hf⟩))
 go_ret;exact⟨v,rfl,gZ hown (by simp;omega),(((Fr.refl _ _).alloc _).alloc _).trans hf⟩
theorem G7 (bp:Nat) (R rest:List Ck.Node) (i g c:Nat) (T:Tree) (hT:R.drop i=T.row++rest) (hlim:R.length≤1099511627776) (w:World) (hR:J4 R g w) (cs:Array Value) (hb:au w bp cs 69) (hcs:cs[0]? = some (.slice (some ⟨g,0,none⟩) R.length c)) :
  Calls Tryz.prog 53 #[.pointer (some ⟨bp,0,none⟩),.int .i64 i] w fun e w'=>e=.returned (.int .i64 ((i+T.row.length:Nat):Int))∧w=w':=by
 obtain⟨kc,kz,aH,kb⟩:=hb.rules
 have kc0:w.cell? ⟨bp,0,none⟩=some (.slice (some ⟨g,0,none⟩) R.length c):=(kc 0).trans hcs;have hgl:=hR.gl;have hlen:(R.length:Int)≤9223372036854775807:=by omega
 have HL:=Lib.hid hlim;have HT:=Lib.hid hT;have HR:=Lib.hid hR
 have hil:i≤R.length:=by
  rcases Nat.lt_or_ge i R.length with h|h
  ·omega
  ·rw[List.drop_eq_nil_of_le h]at hT
   have:=AA T
   cases hr:T.row with
   | nil=>exact absurd hr this
   | cons _ _=>rw[hr]at hT;cases hT
 clear hT hb hcs kc hlim hR;go_enter Tryz.func53,Tryz.ntmps53;go_wp2
 go_loop [1,5] (fun at' op=>∃(q o:Nat),at'=.int .i64 q∧op=.int .i64 o∧q≤R.length∧Hid (∃stk:List Tree,stk.length=o∧R.drop q=rows stk++rest∧q+(rows stk).length=i+T.row.length)) (fun at' _=>R.length-(intOf at').toNat)
 case atStart=>exact⟨i,1,rfl,rfl,hil,[T],rfl,by rw[HT.out];simp[rows],by simp[rows]⟩
 case round =>
  obtain⟨q,o,rfl,rfl,hq1,hq⟩:=hrel
  obtain⟨stk,f1,f2,f3⟩:=hq.out
  clear hq;cases stk with
  | nil =>
   obtain rfl:o=0:=by simpa using f1.symm
   have hqq:Hid (q=i+T.row.length):=by show _=_;simpa[rows]using f3
   clear f1 f2 f3;go_wp2;go_ret;exact⟨by show Ending.returned _=Ending.returned _;have:=hqq.out;subst this;rfl,rfl⟩
  | cons u stk =>
   obtain⟨un,us⟩:=u
   have hu:R[q]? = some { un with kids:=(us.length:Int) }:=by
    have:=congrArg (fun l=>l[0]?) f2
    simpa[Tree.row,rows]using this
   have hu2:R.drop (q+1)=rows (us++stk)++rest:=by
    have:=congrArg List.tail f2
    simpa[Tree.row,rows,dh,List.tail_drop]using this
   have U7:(q:Int)<R.length:=by
    have:=(List.getElem?_eq_some_iff.1 hu).1;omega
   have Rb:w.cell? ⟨g,q*6+2,none⟩=some (.int .i64 (us.length:Int)):=(HR.out.cells q _ hu 2 (by omega)).trans rfl
   have hsl:us.length+stk.length≤R.length:=by
    have h1:=eZ (us++stk);have h2:=congrArg List.length hu2;simp only[List.length_drop,List.length_append]at h1 h2;omega
   have ho:o=stk.length+1:=by simpa using f1.symm
   have VF:Hid (∃AB:List Tree,AB.length=us.length+stk.length∧R.drop (q+1)=rows AB++rest∧q+1+(rows AB).length=i+T.row.length) :=
    ⟨us++stk,by simp,hu2,by rw[dh];simp[rows,Tree.row]at f3 ⊢;omega⟩
   clear hu hu2 f1 f2 f3;subst ho;go_wp2
   go_round
   case rel =>
    have:=HL.out
    exact⟨q+1,us.length+stk.length,by go_num,by congr 1;omega,by omega,VF⟩
   case measure=>simp[intOf];omega
structure AI (w:World) (l:List Tok) (v:Value) (f:dS) (W:World):Prop where
 row:∃vt,au W (w.heap.size+1+1) #[vt] 75∧W.ownsRow (w.heap.size+1+1+1+1) 82 5 vt l.length (lK l)
 r:au W w.heap.size #[v] 75
 f:au W (w.heap.size+1) #[.int .i64 f.code,.int .i64 f.at'] 26
 fr:Fr [] w W
 sz:w.heap.size+1+1+1<W.heap.size
theorem AI.kept {w:World} {l:List Tok} {v:Value} {f:dS} {W W':World} {row:Option Nat} (h:AI w l v f W) (hg:W.grownBy W' row)
  (hr:∀k,row=some k→w.heap.size≤k∧(W.heap[k]?.map Obj.isCells=some false∨W.heap.size≤k)):AI w l v f W':=by
 obtain⟨⟨vt,h1,h2⟩,h3,h4,h6,h7⟩:=h
 have hr':=fun k e=>(hr k e).2
 exact⟨⟨vt,au.qm h1 hg hr',bR h2 hg hr'⟩,au.qm h3 hg hr',au.qm h4 hg hr',h6.grown hg (fun k e=>.inr (hr k e).1),Nat.lt_of_lt_of_le h7 hg.size⟩
def Ue (w:World) (s:Bytes) (e:Ending) (w':World):Prop :=
 Fr [] w w'∧(((aM s).2.code=0∧∃v,e=.returned (.tuple #[v,.agg #[.int .i64 0,.int .i64 0]])∧w'.ownsRow w.heap.size 82 5 v (aM s).1.length (lK (aM s).1)) ∨
  ((aM s).2.code≠0∧e=.returned (.tuple #[.slice none 0 0,vK (aM s).2])))
theorem RJ (s:Bytes) (w:World) (Rs:Vars w) (hs:s.length≤140737488351232) :
  Calls Tryz.prog 156 #[.string ⟨s.toArray⟩] w (Ue w s):=by
 refine(callsIn_wide (n:=3)).1 ?_
 have h1:1≤3:=by omega
 refine callsIn_of_wp_marks Tryz.func156 rfl trivial ?_ rfl;simp only[Tryz.ntmps156,List.size_toArray,List.length_cons,List.length_nil,Nat.reduceAdd,Nat.reduceSub,Array.replicate_succ,Array.replicate_zero,List.push_toArray,List.append_toArray,List.nil_append,List.cons_append]
 gi_wp2_with (refine⟨trivial,?_⟩;gi_at_call 36;refine(DK _ s _).mono ?_;rintro e w' ⟨rfl,rfl⟩)
 obtain⟨W0,hW0⟩:∃W0,((((w.alloc (.cells #[.slice none 0 0] 75)).alloc (.cells #[.int .i64 0,.int .i64 0] 26)).alloc (.cells #[.slice none 0 0] 75)).alloc (.cells #[.string ⟨s.toArray⟩] 9))=W0:=⟨_,rfl⟩
 have hsz:W0.heap.size=w.heap.size+1+1+1+1:=by rw[←hW0];simp
 have hB0:au W0 (w.heap.size+1+1+1) #[.string ⟨s.toArray⟩] 9:=by rw[←hW0];have:=au.new (((w.alloc (.cells #[.slice none 0 0] 75)).alloc (.cells #[.int .i64 0,.int .i64 0] 26)).alloc (.cells #[.slice none 0 0] 75)) #[.string ⟨s.toArray⟩] 9;simpa using this
 have hI0:AI w [] (.slice none 0 0) ⟨0,0⟩ W0:=by
  rw[←hW0];refine⟨⟨.slice none 0 0,?_,⟨rfl,.inl ⟨rfl,rfl⟩⟩⟩,(((au.new w _ _).alloc _).alloc _).alloc _,?_,((((Fr.refl _ _).alloc _).alloc _).alloc _).alloc _,by simp⟩
  ·have:=au.new ((w.alloc (.cells #[.slice none 0 0] 75)).alloc (.cells #[.int .i64 0,.int .i64 0] 26)) #[.slice none 0 0] 75
   simp only[World.size_alloc]at this;exact this.alloc _
  ·have:=au.new (w.alloc (.cells #[.slice none 0 0] 75)) #[.int .i64 0,.int .i64 0] 26
   simp only[World.size_alloc]at this;exact(this.alloc _).alloc _
 rw[hW0];clear hW0
 refine wpIn_rangeFunc_ownH rfl h1 (gf:=68) (lb:=#[.pointer (some ⟨w.heap.size+1+1+1,0,none⟩)]) rfl trivial (enters_of Tryz.func68 (by kernel_rfl) rfl)
  (vL (3-1) (by omega) (w.heap.size+1+1+1) s hs W0 ⟨hB0,Rs.fr hI0.fr (by simp)⟩ (fun W hb=>(Rs.fr hI0.fr (by simp)).fr (Fr.of_below hb) (by simp))) DI (fun W l o o' _ ho hc _=>DJ W l o o' ho hc) (Below.refl _ _) (fun _=>rfl)
  (fun pre W=>Gw pre∧AI w (pre.map Prod.fst) (.slice none 0 0) ⟨0,0⟩ W)
  (fun c pre W=>c=.ret∧∃oV x,pre=oV++[x]∧Gw oV∧x.2.code≠0∧AI w (oV.map Prod.fst) (.slice none 0 0) x.2 W)
  (fun pre X Y row h hg hr=>⟨h.1,h.2.kept hg (fun k e=>⟨by have:=(hr k e).1;omega,.inl (by obtain⟨_,o,ho,hc⟩:=hr k e;rw[ho];simp[hc])⟩)⟩)
  (fun _ pre X Y row h hg hr=>by
   obtain⟨e0,oV,x,e1,e2,e3,h⟩:=h
   exact⟨e0,oV,x,e1,e2,e3,h.kept hg (fun k e=>⟨by have:=(hr k e).1;omega,.inl (by obtain⟨_,o,ho,hc⟩:=hr k e;rw[ho];simp[hc])⟩)⟩)
  ⟨fun x hx=>(by cases hx),hI0⟩
  (fun x a' W=>∃Bt Bf,au W Bt (ql x.1).toArray 82∧au W Bf #[.int .i64 x.2.code,.int .i64 x.2.at'] 26∧w.heap.size+1+1+1<Bt∧w.heap.size+1+1+1<Bf∧(∃vt,au W (w.heap.size+1+1) #[vt] 75∧vt.ownBlock≠some Bt∧vt.ownBlock≠some Bf)∧a'={ tmps:=#[.string ⟨s.toArray⟩,undef,.pointer (some ⟨w.heap.size,0,none⟩),.pointer (some ⟨w.heap.size+1,0,none⟩),.pointer (some ⟨w.heap.size+1+1,0,none⟩),.pointer (some ⟨Bt,0,none⟩),.pointer (some ⟨Bf,0,none⟩),.string ⟨s.toArray⟩,.func (.func 68) #[] #[.pointer (some ⟨w.heap.size+1+1+1,0,none⟩)],eU x.1,vK x.2,undef,undef,undef,undef,undef,undef,undef,undef,undef,undef],defers:=[] })
  (fun x a' _ X Y row hs hg hr=>by
   obtain⟨Bt,Bf,b1,b2,b5,b7,⟨vt,b3,b4,b8⟩,b6⟩:=hs
   have hr':∀k,row=some k→X.heap[k]?.map Obj.isCells=some false∨X.heap.size≤k:=fun k e=>.inl (by obtain⟨_,o,ho,hc⟩:=hr k e;rw[ho];simp[hc])
   exact⟨Bt,Bf,au.qm b1 hg hr',au.qm b2 hg hr',b5,b7,⟨vt,au.qm b3 hg hr',b4,b8⟩,b6⟩)
  ?assign ?body ?done ?stop
 case assign =>
  rintro l pre ⟨t,f⟩ W K ⟨hok,hi⟩ hK;simp only[qU,eU,vK]
  gi_wp2
  have hi':=(hi.kept (World.grownBy_alloc W (.cells #[.int .i64 t.kind,.int .i64 t.at',.string ⟨t.text.toArray⟩,.int .i64 t.int,.int .u64 t.bits] 82) none) (fun k e=>by cases e)).kept (World.grownBy_alloc _ (.cells #[.int .i64 f.code,.int .i64 f.at'] 26) none) (fun k e=>by cases e);obtain⟨⟨vt,g1,g2⟩,g3,g4,g6,g7⟩:=hi
  refine hK _ _ (((KeepsOthers.alloc _ _).trans (KeepsOthers.alloc _ _)).from _) ⟨fun c T h=>(h.alloc _).alloc _,fun h=>h.fr (((Fr.refl [] _).alloc _).alloc _) (by simp)⟩ ⟨hok,hi'⟩ ⟨W.heap.size,W.heap.size+1,(au.new W _ _).alloc _,?_,?_,?_,⟨vt,(g1.alloc _).alloc _,?_,?_⟩,rfl⟩
  ·have:=au.new (W.alloc (.cells #[.int .i64 t.kind,.int .i64 t.at',.string ⟨t.text.toArray⟩,.int .i64 t.int,.int .u64 t.bits] 82)) #[.int .i64 f.code,.int .i64 f.at'] 26
   simpa using this
  ·exact g7
  ·omega
  ·intro e
   have:=(g2.lt _ e).2
   omega
  ·intro e
   have:=(g2.lt _ e).2
   omega
 case body =>
  rintro l pre ⟨t,f⟩ a' W hl _ ⟨hok,hi⟩ ⟨Bt,Bf,b1,b2,b5,b7,⟨Vm,b3,b4,b8⟩,rfl⟩ hlt;simp only[eU,vK];simp only[ql]at b1;obtain⟨⟨vt,g1,g2⟩,g3,g4,g6,g7⟩:=hi
  obtain rfl:Vm=vt:=by have:=b3.symm.trans g1;simpa using this
  clear b3;obtain⟨tc,tz,jX,tb⟩:=b1.rules
  obtain⟨fc,fz,aaG,fb⟩:=b2.rules
  obtain⟨rc,rz,bE,rb⟩:=g1.rules
  obtain⟨pc,pz,ES,pb⟩:=g3.rules
  obtain⟨nc,nz,nN,nb⟩:=g4.rules
  cases hf:(f.code != 0)
  ·obtain⟨i0,hi0,hz0,hz1,hz2⟩:=info_parts Tryz.infoTok
   have hlt2:=g2.lt
   gi_wp2_with (refine wpListIn_append_own _ rfl _ _ 75 rfl (w.heap.size+1+1+1+1) 82 i0 _ 5 48 Tryz.underlying75 hi0 hz0 hz1 hz2 rfl (by decide) Vm pre.length (lK (pre.map Prod.fst)) rfl (bR (by simpa using g2) (World.grownBy_alloc W _ none) (fun k e=>by cases e)) ⟨W.heap.size,0,none⟩ 1 1 (ql t) rfl rfl (World.news_of_block (au.new W _ _)) (by simp[ql,Value.oneCell']) (by simp[maxLen];omega) (by omega) (by simp;omega) ?_;intro vt2 w1 hown hg1 hnil;obtain⟨g',cap',rfl⟩:=ownsRow_succ hown;obtain⟨qc,qz,bS,qb⟩:=((g1.alloc _).grown hg1 (fun e=>by have:=(hlt2 _ e).1;omega)).rules)
   have hrow:=bR (by simpa using g2) (World.grownBy_alloc W (.cells #[.int .i64 t.kind,.int .i64 t.at',.string ⟨t.text.toArray⟩,.int .i64 t.int,.int .u64 t.bits] 82) none) (fun k e=>by cases e);have TL:au w1 (w.heap.size+1+1) #[Vm] 75:=(g1.alloc _).grown hg1 (fun e=>by have:=(hlt2 _ e).1;omega);have gr3:au w1 w.heap.size #[.slice none 0 0] 75:=(g3.alloc _).grown hg1 (fun e=>by have:=(hlt2 _ e).1;omega);have gr4:au w1 (w.heap.size+1) #[.int .i64 0,.int .i64 0] 26:=(g4.alloc _).grown hg1 (fun e=>by have:=(hlt2 _ e).1;omega);have hfc:f.code=0:=by simpa using hf
   refine⟨KeepsOthers.from (((KeepsOthers.alloc _ _).trans (KeepsOthers.of_grownBy hg1 (fun j o hj ho=>tH hrow j o hj ho))).trans (kD TL)) _,⟨fun c T h=>au.aL ((h.alloc _).grown hg1 (fun e=>by have:=(hlt2 _ e).1;omega)) (by omega),fun h=>?_⟩,fun x hx=>?_,⟨⟨_,au.blk qb,?_⟩,au.aL gr3 (by omega),au.aL gr4 (by omega),?_,?_⟩⟩
   ·exact Rs.fr (((g6.alloc _).grown hg1 (fun k e=>.inr (by have:=(hlt2 _ e).1;omega))).blk (.inr (by omega)) _ _) (by simp)
   ·rcases List.mem_append.1 hx with h|h
    ·exact hok x h
    ·simp at h;subst h;exact hfc
   ·have:=eB (b:=w.heap.size+1+1) (c:=#[Value.slice (some ⟨g',0,none⟩) (pre.length+1) cap']) (T:=75) hown (by omega)
    simpa[lK]using this
   ·exact((g6.alloc _).grown hg1 (fun k e=>.inr (by have:=(hlt2 _ e).1;omega))).blk (.inr (by omega)) _ _
   ·rw[aB];have:=hg1.size;simp at this;omega
  ·gi_wp2
   have hS:(fun X:World=>au X Bf #[.int .i64 f.code,.int .i64 f.at'] 26) W.drew:=b2;have hS1:(fun X:World=>au X Bf #[.int .i64 f.code,.int .i64 f.at'] 26) (Ck.blk W.drew w.heap.size #[.slice none 0 0] 75):=au.aL b2 (by omega);apply dY (S:=fun X:World=>au X Bf #[.int .i64 f.code,.int .i64 f.at'] 26)
   case hm=>kernel_rfl
   case hd=>kernel_rfl
   case h =>
    refine tkn 0 (.agg #[.int .i64 f.code,.int .i64 f.at']) rfl hS (fun X hX=>?_) ?_
    ·obtain⟨c1,_,_,_⟩:=au.rules hX;clear hX;go_simp
    simp only[Act.put,acts];refine wpAnyH_all (rs:=[1]) (by kernel_rfl) (by simp) ?_;intro i hi;obtain rfl:i=1:=by simpa using hi
    refine wpOp_step rfl (fun K hK=>?_);rw[if_pos (by rfl)];go_simp;refine hK _ _ ⟨hS1,?_⟩;clear hK K;refine wpAnyH_all (rs:=[2]) (by kernel_rfl) (by simp) ?_;intro i hi;obtain rfl:i=2:=by simpa using hi
    refine wpOp_step rfl (fun K hK=>?_);rw[if_pos (by rfl)];go_simp;exact hK _ _ ⟨au.aL (au.aL b2 (by omega)) (by omega),wpAnyH_done (by kernel_rfl) ⟨rfl,rfl,rfl⟩ _⟩
   case hK =>
    gi_wp2
    refine⟨KeepsOthers.from (((kD g4).trans (kD (au.aL g3 (by omega)))).trans (KeepsOthers.drew _)) _,rfl,pre,t,f,rfl,hok,by simpa using hf,⟨⟨Vm,?_,?_⟩,?_,?_,?_,?_⟩⟩
    ·exact(au.aL (au.aL g1 (by omega)) (by omega)).drew
    ·exact eB (eB g2 (by omega)) (by omega)
    ·exact au.blk (by rw[aB];exact pb)
    ·exact au.aL (au.blk nb) (by omega)
    ·exact((g6.blk (.inr (by omega)) _ _).blk (.inr (Nat.le_refl _)) _ _).drew
    ·show _<(Ck.blk _ _ _ _).heap.size;rw[aB,aB];exact g7
 case done =>
  rintro D xs W hD rfl ⟨hok,hi⟩ hK;obtain⟨h0,hm⟩:=zI (aM s).1 (aM s).2 hok
  rw[hm]at hi
  obtain⟨⟨vt,g1,g2⟩,g3,g4,g6,g7⟩:=hi
  obtain⟨x,m,c,rfl⟩:∃x m c,vt=.slice x m c:=by rcases g2.2 with⟨rfl,_⟩|⟨g,cap,cur,rfl,_⟩<;>exact⟨_,_,_,rfl⟩
  obtain⟨rc,rz,bE,rb⟩:=g1.rules
  obtain⟨pc,pz,ES,pb⟩:=g3.rules
  obtain⟨nc,nz,nN,nb⟩:=g4.rules
  gi_wp2
  have hX:AI w (aM s).1 (.slice x m c) ⟨0,0⟩ (Ck.blk (Ck.blk W (w.heap.size+1) #[.int .i64 0,.int .i64 0] 26) w.heap.size #[.slice x m c] 75) :=
   ⟨⟨_,au.aL (au.aL g1 (by omega)) (by omega),eB (eB g2 (by omega)) (by omega)⟩,au.blk (by rw[aB];exact pb),au.aL (au.blk nb) (by omega),(g6.blk (.inr (by omega)) _ _).blk (.inr (Nat.le_refl _)) _ _,by rw[aB,aB];exact g7⟩
  have hKX:(Ck.blk (Ck.blk W (w.heap.size+1) #[.int .i64 0,.int .i64 0] 26) w.heap.size #[.slice x m c] 75).heap[D]? = some (.deferred (some [])):=by
   rw[bH (by omega),bH (by omega)];exact hK
  obtain⟨X,eX⟩:∃X,X=(Ck.blk (Ck.blk W (w.heap.size+1) #[.int .i64 0,.int .i64 0] 26) w.heap.size #[.slice x m c] 75):=⟨_,rfl⟩
  have VG:(Ck.blk (Ck.blk W (w.heap.size+1) #[.int .i64 0,.int .i64 0] 26) w.heap.size #[.slice x m c] 75).ownsRow (w.heap.size+1+1+1+1) 82 5 (.slice x m c) (aM s).1.length (lK (aM s).1):=eB (eB g2 (by omega)) (by omega);rw[←eX]at hX hKX VG ⊢
  clear eX;refine⟨by simp,.inl ⟨_,_,rfl,run_takeDeferred hKX,?_⟩⟩;have Ud:=bR VG (grownBy_putObj' X D (.deferred none)) (fun k e=>by cases e;exact .inl (by rw[hKX];rfl));have hY:=hX.kept (grownBy_putObj' X D (.deferred none)) (fun k e=>by cases e;exact⟨by omega,.inl (by rw[hKX];rfl)⟩);obtain⟨⟨vt,y1,y2⟩,y3,y4,y6,y7⟩:=hY
  obtain⟨pc2,_,_,_⟩:=y3.rules
  obtain⟨nc2,_,_,_⟩:=y4.rules
  exact⟨.tuple #[.slice x m c,.agg #[.int .i64 0,.int .i64 0]],by simp[results,Tryz.results156,go_sem,pc2,nc2],y6,.inl ⟨h0,_,rfl,gZ Ud (by omega)⟩⟩
 case stop =>
  rintro D c pre W hD hSp ⟨rfl,oV,x,rfl,hok,hx,hi⟩ hK;obtain⟨rest,hr⟩:=hSp
  obtain⟨e1,e2⟩:=zH (aM s).1 (aM s).2 oV rest x (by simpa using hr) hok hx
  rw[e1,e2]at hi
  gi_wp2
  refine⟨by simp,.inl ⟨_,_,rfl,run_takeDeferred hK,?_⟩⟩;have hY:=hi.kept (grownBy_putObj' W D (.deferred none)) (fun k e=>by cases e;exact⟨by omega,.inl (by rw[hK];rfl)⟩);obtain⟨⟨vt,y1,y2⟩,y3,y4,y6,y7⟩:=hY
  obtain⟨pc2,_,_,_⟩:=y3.rules
  obtain⟨nc2,_,_,_⟩:=y4.rules
  exact⟨.tuple #[.slice none 0 0,vK (aM s).2],by simp[results,Tryz.results156,go_sem,pc2,nc2,vK],y6,.inr ⟨by rw[←e2];exact hx,rfl⟩⟩
def VP (i:Nat) (ks:List Tree) (x:Nat):Prop:=∃done t ts,ks=done++t::ts∧x=i+1+(rows done).length
theorem D5 (n:Nat) (hn:1≤n) (l Bi Bl:Nat) (R rest:List Ck.Node) (i g c:Nat) (m:Ck.Node) (ks:List Tree) (hT:R.drop i=(Tree.mk m ks).row++rest) (hlim:R.length≤1099511627776) (J Jx:List Nat→World→Prop)
  (hY:∀(pre:List Nat) (x:Nat) W,VP i ks x→J pre W→pre.length<1099511627777→YieldAt Fence.wide (n-1) Tryz.prog l #[.int .i64 x] W fun e W' =>
   (e=.returned (.bool true)∧J (pre++[x]) W'∧nH [Bi,Bl,g] W W')∨(e=.returned (.bool false)∧Jx (pre++[x]) W'))
  (hJ:∀pre W W',J pre W→Fr [] W W'→J pre W')
  (W:World) (hB:lX R g c i Bi Bl W) (h0:J [] W) :
  CallsIn Fence.wide n Tryz.prog 30 #[.func (.yield l) #[] #[],.pointer (some ⟨Bi,0,none⟩),.pointer (some ⟨Bl,0,none⟩)] W fun e W'=>(∃v,e=.returned v) ∧
   ((∃xs,xs=kpos (i+1) ks∧J xs W')∨(∃pre,pre <+: kpos (i+1) ks∧Jx pre W')):=by
 have hil:i<R.length:=by
  rcases Nat.lt_or_ge i R.length with h|h
  ·exact h
  ·rw[List.drop_eq_nil_of_le h]at hT;simp[Tree.row]at hT
 have hR0:R≠[]:=fun e=>by rw[e]at hil;simp at hil
 have VE:R[i]? = some { m with kids:=(ks.length:Int) }:=by
  have:=congrArg (fun l=>l[0]?) hT
  simpa[Tree.row]using this
 have hdr:R.drop (i+1)=rows ks++rest:=by
  have:=congrArg List.tail hT
  simpa[Tree.row,List.tail_drop]using this
 obtain⟨bc,bz,Fw,bb⟩:=hB.bi.rules
 obtain⟨lc,lz,pW,lb⟩:=hB.bl.rules
 have hlen:(R.length:Int)≤9223372036854775807:=by omega
 have hd1:decide (R.length≤i)=false:=by simpa using hil
 have hd2:decide ((i:Int)<0)=false:=by simp
 have Pq:=Lib.hid hlim;have HRI:=Lib.hid VE;have HDR:=Lib.hid hdr;have HB:=Lib.hid hB;clear hlim VE hdr hT hB;refine callsIn_of_wp Tryz.func30 rfl trivial ?_ rfl;simp only[Tryz.ntmps30,List.size_toArray,List.length_cons,List.length_nil,Nat.reduceAdd,Nat.reduceSub,Array.replicate_succ,Array.replicate_zero,List.push_toArray,List.append_toArray,List.nil_append,List.cons_append]
 gi_wp2
 gi_loopw [4,5,6] (fun at' k _op wr=>∃(p j:Nat),at'=.int .i64 p∧k=.int .i64 j∧p≤R.length∧Hid (∃(done ts:List Tree),ks=done++ts∧done.length=j∧R.drop p=rows ts++rest∧p=i+1+(rows done).length∧J (kpos (i+1) done) wr∧lX R g c i Bi Bl wr)) (fun at' _ _ _=>R.length-(intOf at').toNat)
 case atStart=>exact⟨i+1,0,by go_num,rfl,by omega,[],ks,rfl,rfl,HDR.out,by simp[rows],h0,HB.out⟩
 case round =>
  obtain⟨p,j,rfl,rfl,hp,hq⟩:=hrel
  obtain⟨done,ts,e1,e2,e3,e4,e5,hB'⟩:=hq.out
  clear hq bc bz Fw bb lc lz pW lb;obtain⟨bc,bz,Fw,bb⟩:=hB'.bi.rules
  obtain⟨lc,lz,pW,lb⟩:=hB'.bl.rules
  have Rb:wr.cell? ⟨g,i*6+2,none⟩=some (.int .i64 (ks.length:Int)):=(hB'.cells i _ HRI.out 2 (by omega)).trans rfl;have hgl:=hB'.gl;have hkl:ks.length=done.length+ts.length:=by rw[e1,List.length_append]
  have HJ:=Lib.hid e5;have HB2:=Lib.hid hB';have E1:=Lib.hid e1;have E2:=Lib.hid e2;have E3:=Lib.hid e3;have E4:=Lib.hid e4;clear e1 e3 e4 e5 hB';cases ts with
  | nil =>
   have hj:¬(j:Int)<ks.length:=by simp at hkl;omega
   clear hkl
   gi_wp2
   go_end0
   exact⟨⟨_,rfl⟩,.inl (by rw[E1.out,List.append_nil];exact HJ.out)⟩
  | cons t ts =>
   have hpl:(p:Int)<R.length:=by
    rcases Nat.lt_or_ge p R.length with h|h
    ·omega
    ·have h3:=E3.out;rw[List.drop_eq_nil_of_le h]at h3
     have h4:=AA t;cases hr:t.row with
     | nil=>exact absurd hr h4
     | cons _ _=>rw[rows,hr]at h3;cases h3
   have hj:(j:Int)<ks.length:=by simp at hkl;omega
   clear hkl;have hpre:=kT done (i+1);obtain⟨fn,tmps,assign,body,hy,RI⟩:=hY (kpos (i+1) done) p wr ⟨done,t,ts,E1.out,E4.out⟩ HJ.out (by have:=Pq.out;have:=E1.out;have hd:done.length≤(rows done).length:=eZ done;have:=E4.out;omega)
   clear hpre
   gi_wp2
   refine RI.mono ?_;rintro e' W3 (⟨rfl,hJ3,hk3⟩|⟨rfl,hJx3⟩)
   ·have hB3:=lX.keep HB2.out hR0 hk3
    gi_wp2
    gi_loopw [4,6] (fun at' op wr=>∃(q o:Nat),at'=.int .i64 q∧op=.int .i64 o∧q≤R.length∧p≤q∧Hid (∃stk:List Tree,stk.length=o∧R.drop q=rows stk++(rows ts++rest)∧q+(rows stk).length=p+t.row.length∧J (kpos (i+1) done++[p]) wr∧lX R g c i Bi Bl wr)) (fun at' _ _=>R.length-(intOf at').toNat)
    case atStart=>exact⟨p,1,rfl,rfl,hp,Nat.le_refl _,[t],rfl,by rw[E3.out];simp[rows],by simp[rows],hJ3,hB3⟩
    case round =>
     clear hB3 hJ3 hk3 RI hy bc bz Fw bb lc lz pW lb Rb HB2 HJ;obtain⟨q,o,rfl,rfl,hq1,hpq,hq⟩:=hrel
     obtain⟨stk,f1,f2,f3,f4,f5⟩:=hq.out
     clear hq;obtain⟨bc,bz,Fw,bb⟩:=f5.bi.rules
     obtain⟨lc,lz,pW,lb⟩:=f5.bl.rules
     have hgl:=f5.gl;cases stk with
     | nil =>
      obtain rfl:o=0:=by simpa using f1.symm
      have hE:Hid (∃(done ts:List Tree),ks=done++ts∧done.length=j+1∧R.drop q=rows ts++rest∧q=i+1+(rows done).length∧J (kpos (i+1) done) wr∧lX R g c i Bi Bl wr) :=
       ⟨done++[t],ts,by rw[E1.out];simp,by simp[e2],by simpa[rows]using f2,by have:=E4.out;simp[rows]at f3;rw[dh];simp[rows];omega,by rw[iN];simpa[kpos,E4.out]using f4,f5⟩
      have U7:Hid (q=p+t.row.length):=by show _=_;simpa[rows]using f3
      have htl:1≤t.row.length:=by cases t;simp[Tree.row]
      have hjR:(j:Int)+1≤9223372036854775807:=by
       have h1:=eZ done
       have:=E4.out
       omega
      clear f1 f2 f3 f4 f5
      gi_wp2
      have hqq:=U7.out;exact⟨⟨q,j+1,rfl,by go_num,hq1,hE⟩,by simp[intOf];omega⟩
     | cons u stk =>
      obtain⟨un,us⟩:=u
      have hu:R[q]? = some { un with kids:=(us.length:Int) }:=by
       have:=congrArg (fun l=>l[0]?) f2
       simpa[Tree.row,rows]using this
      have hu2:R.drop (q+1)=rows (us++stk)++(rows ts++rest):=by
       have:=congrArg List.tail f2
       simpa[Tree.row,rows,dh,List.tail_drop]using this
      have U7:(q:Int)<R.length:=by
       have:=(List.getElem?_eq_some_iff.1 hu).1;omega
      have Rb:wr.cell? ⟨g,q*6+2,none⟩=some (.int .i64 (us.length:Int)):=(f5.cells q _ hu 2 (by omega)).trans rfl
      have aa2:(us.length:Int)≤R.length:=by
       have h1:=eZ us;have h2:=congrArg List.length hu2;rw[dh]at h2
       simp only[List.length_drop,List.length_append]at h2;omega
      have ho:o=stk.length+1:=by simpa using f1.symm
      have VF:Hid (∃AB:List Tree,AB.length=us.length+stk.length∧R.drop (q+1)=rows AB++(rows ts++rest)∧q+1+(rows AB).length=p+t.row.length∧J (kpos (i+1) done++[p]) wr.drew∧lX R g c i Bi Bl wr.drew) :=
       ⟨us++stk,by simp,hu2,by rw[dh];simp[rows,Tree.row]at f3 ⊢;omega,hJ _ _ _ f4 (Fr.refl _ _).drew,f5.fr (Fr.refl _ _).drew⟩
      have hsl:(stk.length:Int)≤R.length:=by
       have h1:=eZ stk;have h2:=congrArg List.length hu2;rw[dh]at h2
       simp only[List.length_drop,List.length_append]at h2;omega
      clear hu hu2 f1 f2 f3 f4 f5;subst ho
      gi_wp2
      gi_region
      all_goals gi_wp2
      have hmin:min (us.length:Int) (R.length:Int)=us.length:=by omega
      have aa3:=Pq.out;exact⟨⟨q+1,us.length+stk.length,by go_num,by rw[hmin];unfold wrap64;congr 1;omega,by omega,by omega,VF⟩,by simp[intOf];omega⟩
   ·gi_wp2
    refine bodyPost_ret (results_none rfl _ _ _) rfl ⟨⟨_,rfl⟩,.inr ⟨_,?_,hJx3⟩⟩;rw[E1.out,iN,←E4.out,kpos];exact⟨kpos (p+t.row.length) ts,by simp⟩
theorem G8 (n:Nat) (hn:1≤n) (Bi Bl:Nat) (R rest:List Ck.Node) (i g c:Nat) (m:Ck.Node) (ks:List Tree) (hT:R.drop i=(Tree.mk m ks).row++rest) (hlim:R.length≤1099511627776) (w:World) (hB:lX R g c i Bi Bl w) :
  SeqStopsK Fence.wide n Tryz.prog 30 #[.pointer (some ⟨Bi,0,none⟩),.pointer (some ⟨Bl,0,none⟩)] (fun x:{ x:Nat // VP i ks x }=>#[.int .i64 (x.1:Int)]) (nH [Bi,Bl,g]) (fun xs=>xs.map (·.1)=kpos (i+1) ks) (fun _=>True) 1099511627777 w:=fun l J Jx W hW hJ _ hY h0=>by
 refine(D5 n hn l Bi Bl R rest i g c m ks hT hlim (fun pre W=>∃pre':List { x:Nat // VP i ks x },pre'.map (·.1)=pre∧J pre' W) (fun pre W=>∃pre':List { x:Nat // VP i ks x },pre'.map (·.1)=pre∧Jx pre' W) ?_ ?_ W (hB.fr (Fr.of_below hW)) ⟨[],rfl,h0⟩).mono ?_
 ·rintro pre x W1 hv ⟨pre',rfl,h1⟩ hl;obtain⟨fn,tmps,assign,body,hy,RI⟩:=hY pre' ⟨x,hv⟩ W1 h1 (by simpa using hl)
  refine⟨fn,tmps,assign,body,hy,RI.mono ?_⟩;rintro e W' (⟨rfl,h2,h3⟩|⟨rfl,h2⟩)
  ·exact .inl ⟨rfl,⟨_,by simp,h2⟩,h3⟩
  ·exact .inr ⟨rfl,_,by simp,h2⟩
 ·rintro pre A C ⟨pre',rfl,h1⟩ hf;exact⟨pre',rfl,hJ pre' A C none h1 (jW hf) (fun r e=>by cases e)⟩
 ·rintro e W' ⟨h1,⟨xs,rfl,pre',h2,h3⟩|⟨pre,_,pre',_,h3⟩⟩
  ·exact⟨h1,.inl ⟨pre',h2,h3⟩⟩
  ·exact⟨h1,.inr ⟨pre',trivial,h3⟩⟩
end Go.Proofs.YtoomapkcoibmhaaGreatDoor
end
