/- A part of the proof. -/
import Derived.Test.YtoomapkcoibmhaaGreatDoorQ35
set_option maxRecDepth 100000
set_option maxHeartbeats 12800000
set_option linter.all false
section
open Go Go.Proofs Go.RowKit Go.Shelf Go.Maps Ck
namespace Go.Proofs.YtoomapkcoibmhaaGreatDoor
attribute [local go_sem] Oper.semAt_some
def yO (R:List Ck.Node) (l:List Nat):List Bytes:=l.filterMap fun x=>match R[x]? with|some n=>if n.kind==2 then some n.text else none|none=>none
def xU (R:List Ck.Node) (l:List Nat):List (Bytes × Int):=l.filterMap fun x=>match R[x]? with|some n=>if n.kind==2 then none else some (n.text,n.kids-1)|none=>none
theorem abX (R rest:List Ck.Node):∀(ks:List Tree) (p:Nat),R.drop p=rows ks++rest→yO R (kpos p ks)=tC ks∧xU R (kpos p ks)=vH ks
 | [],p,_=>⟨rfl,rfl⟩
 | t::ks,p,h=>by
  obtain⟨tn,tk⟩:=t
  have h1:R[p]? = some { tn with kids:=(tk.length:Int) }:=by
   have:=congrArg (fun l=>l[0]?) h
   simpa[rows,Tree.row]using this
  have h2:R.drop (p+(Tree.mk tn tk).row.length)=rows ks++rest:=by
   rw[←List.drop_drop,h];simp[rows,List.drop_left',List.append_assoc]
  obtain⟨g1,g2⟩:=abX R rest ks _ h2
  unfold yO at g1 ⊢;unfold xU at g2 ⊢;simp only[kpos,List.filterMap_cons,h1];by_cases hk:tn.kind==2
  ·simp only[hk,if_true];constructor
   ·rw[g1];simp[tC,Tree.n,hk]
   ·rw[g2]
    have:(tn.kind != 2)=false:=by simp at hk ⊢;exact hk
    simp[vH,Tree.n,this]
  ·have hk':(tn.kind==2)=false:=by simpa using hk
   have:(tn.kind != 2)=true:=by simp at hk ⊢;exact hk
   simp only[hk',Bool.false_eq_true,if_false];constructor
   ·rw[g1];simp[tC,Tree.n,hk']
   ·rw[g2];simp[vH,Tree.n,Tree.ks,this]
theorem KP (R:List Ck.Node) (l:List Nat) (x:Nat) (n:Ck.Node) (h:R[x]? = some n):yO R (l++[x])=(if n.kind==2 then yO R l++[n.text]else yO R l)∧xU R (l++[x])=(if n.kind==2 then xU R l else xU R l++[(n.text,n.kids-1)]):=by
 unfold yO xU;rw[List.filterMap_append,List.filterMap_append];simp only[List.filterMap_cons,List.filterMap_nil,h];by_cases hk:n.kind==2<;>simp[hk]
theorem Nv (R:List Ck.Node) (l:List Nat):(yO R l).length≤l.length∧(xU R l).length≤l.length:=⟨List.length_filterMap_le _ _,List.length_filterMap_le _ _⟩
theorem qF {P:Program} {o:Oper} {a:Act} {w w':World} {K:Act→World→Prop} {Q:Exit→Act→World→Prop} (m x v:Operand) (t:TypeId) (hop:o.op=Op.mapUpdate t m x v)
  {mv key val:Value} (hm:a.eval m=mv) (hx:a.eval x=key) (hv:a.eval v=val) (hrun:(Instr.mapUpdate t mv key val).run P w=.ok () w') (hK:K (a.put o.dst undef) w'):Oper.wp P o a w K Q:=by
 unfold Oper.wp;simp[execOp,hop,hm,hx,hv,hrun,Result.andThen];exact hK
theorem Dm {P:Program} {o:Oper} {a:Act} {w:World} {K:Act→World→Prop} {Q:Exit→Act→World→Prop} (m x:Operand) (t:TypeId) (hop:o.op=Op.lookup t m x true)
  {mv key r:Value} (hm:a.eval m=mv) (hx:a.eval x=key) (hrun:(Instr.lookup t mv key true).run P w=.ok r w) (hK:K (a.put o.dst r) w):Oper.wp P o a w K Q:=by
 unfold Oper.wp;simp[execOp,hop,hm,hx,hrun,Result.andThen];exact hK
theorem eP.like {w:World} {m:Nat} {l l':List Bytes} (h:eP w m l) (h1:l.length≤l'.length) (h2:∀x,l.contains x=l'.contains x):eP w m l':=by
 obtain⟨n,D,a,b,c⟩:=h
 exact⟨n,D,a,by omega,fun x=>by rw[c,h2]⟩
theorem VP.node {R rest:List Ck.Node} {i:Nat} {m:Ck.Node} {ks:List Tree} {x:Nat} (hT:R.drop i=(Tree.mk m ks).row++rest) (hv:VP i ks x):∃nd,R[x]? = some nd:=by
 obtain⟨done,t,ts,rfl,rfl⟩:=hv
 obtain⟨tn,tk⟩:=t
 refine⟨{ tn with kids:=(tk.length:Int) },?_⟩;have h1:=congrArg (fun l=>l[1+(rows done).length]?) hT;simp only[List.getElem?_drop]at h1;rw[←Nat.add_assoc]at h1
 rw[h1,Nat.add_comm 1];simp[Tree.row,dh,rows,List.getElem?_append_right]
mutual
theorem Iw:∀(t:Tree),∀n∈t.row,0≤n.kids
 | .mk m ks,n,hn=>by
  unfold Tree.row at hn;rcases List.mem_cons.1 hn with rfl|hn
  ·simp
  ·exact En ks n hn
theorem En:∀(l:List Tree),∀n∈rows l,0≤n.kids
 | [],n,hn=>by cases hn
 | t::l,n,hn=>by
  unfold rows at hn;rcases List.mem_append.1 hn with hn|hn
  ·exact Iw t n hn
  ·exact En l n hn
end
structure BG (R:List Ck.Node) (w:World) (g c:Nat) (free:Bool) (pre:List Nat) (W:World):Prop where
 sl:au W w.heap.size #[.slice (some ⟨g,0,none⟩) R.length c] 23
 oP:au W (w.heap.size+1+1+1+1) #[.slice (some ⟨g,0,none⟩) R.length c,.bool free,.map (some (w.heap.size+1)),.map (some (w.heap.size+1+1)),.map (some (w.heap.size+1+1+1)),.slice none 0 0,.slice none 0 0] 69
 pt:au W (w.heap.size+1+1+1+1+1) #[.pointer (some ⟨w.heap.size+1+1+1+1,0,none⟩)] 45
 Je:eP W (w.heap.size+1) (yO R pre)
 par:MapAt W (w.heap.size+1+1) (xU R pre)
 Ea:eP W (w.heap.size+1+1+1) []
 fr:Fr [] w W
theorem BG.frn {R:List Ck.Node} {w:World} {g c:Nat} {free:Bool} {pre:List Nat} {W W':World} (h:BG R w g c free pre W) (hf:Fr [] W W'):BG R w g c free pre W' :=
 ⟨h.sl.fr hf (by simp),h.oP.fr hf (by simp),h.pt.fr hf (by simp),h.Je.fr hf,h.par.fr hf,h.Ea.fr hf,h.fr.trans hf⟩
theorem BG.turn {R:List Ck.Node} {w:World} {g c:Nat} {free:Bool} {pre:List Nat} {W W':World} {row:Option Nat} (h:BG R w g c free pre W) (hg:W.grownBy W' row) (hr:∀k,row=some k→w.heap.size+1+1+1+1+1<k):BG R w g c free pre W':=by
 have hk:∀k,k≤w.heap.size+1+1+1+1+1→k<W.heap.size→W'.heap[k]? = W.heap[k]?:=fun k h1 h2=>hg.block k h2 (fun e=>by have:=hr k e.symm;omega)
 exact⟨(hk _ (by omega) h.sl.lt).trans h.sl,(hk _ (by omega) h.oP.lt).trans h.oP,(hk _ (by omega) h.pt.lt).trans h.pt,h.Je.eq (hk _ (by omega) h.Je.lt),h.par.eq (hk _ (by omega) h.par.lt),h.Ea.eq (hk _ (by omega) h.Ea.lt),
  h.fr.grown hg (fun k e=>.inr (by have:=hr k e;omega))⟩
theorem BQ (R:List Ck.Node) (n:Ck.Node) (ks:List Tree) (g c:Nat) (free:Bool) (w:World) (hR:R=(Tree.mk n ks).row) (xV:J4 R g w) (hV:Vars w) (hlim:R.length≤1099511627776) (hok:∀m∈R,uQ m) :
  Calls Tryz.prog 17 #[.slice (some ⟨g,0,none⟩) R.length c,.bool free] w fun e w'=>∃bp mg mp ma,e=.returned (.pointer (some ⟨bp,0,none⟩))∧CK ⟨R,Dy (.mk n ks) free,bp,g,c,mg,mp,ma,w.heap.size,w⟩ ⟨[],[],[]⟩ [] w'∧Fr [] w w':=by
 have hT:R.drop 0=(Tree.mk n ks).row++[]:=by simp[hR]
 have hgl:=xV.gl;have HRR:=Lib.hid hR;have HT:=Lib.hid hT;have HOK:=Lib.hid hok;have hr0:0<R.length:=by rw[hR];simp[Tree.row]
 clear hR hT hok;have hfK:Fence.wide.fn 18:=trivial;refine(callsIn_wide (n:=3)).1 ?_
 have h1:1≤3:=by omega
 have hmm:=@run_makeMap Tryz.prog;have hki:=fun X=>xD 2 R 0 g c X
 refine callsIn_of_wp_marks Tryz.func17 rfl trivial ?_ rfl;simp only[Tryz.ntmps17,List.size_toArray,List.length_cons,List.length_nil,Nat.reduceAdd,Nat.reduceSub,Array.replicate_succ,Array.replicate_zero,List.push_toArray,List.append_toArray,List.nil_append,List.cons_append]
 gi_wp2_with (gi_at_call 18;refine(hki _).mono ?_;rintro e w1 ⟨rfl,rfl⟩)
 have Uv:Fr [] w ((((((w.alloc (.cells #[.slice (some ⟨g,0,none⟩) R.length c] 23)).alloc (.map #[] 0)).alloc (.map #[] 0)).alloc (.map #[] 0)).alloc (.cells #[.slice (some ⟨g,0,none⟩) R.length c,.bool free,.map (some (w.heap.size+1)),.map (some (w.heap.size+1+1)),.map (some (w.heap.size+1+1+1)),.slice none 0 0,.slice none 0 0] 69)).alloc (.cells #[.pointer (some ⟨w.heap.size+1+1+1+1,0,none⟩)] 45)):=(((((((Fr.refl [] _).alloc _).alloc _).alloc _).alloc _).alloc _).alloc _)
 have hsrc:=AJ R 0 g c ((((((w.alloc (.cells #[.slice (some ⟨g,0,none⟩) R.length c] 23)).alloc (.map #[] 0)).alloc (.map #[] 0)).alloc (.map #[] 0)).alloc (.cells #[.slice (some ⟨g,0,none⟩) R.length c,.bool free,.map (some (w.heap.size+1)),.map (some (w.heap.size+1+1)),.map (some (w.heap.size+1+1+1)),.slice none 0 0,.slice none 0 0] 69)).alloc (.cells #[.pointer (some ⟨w.heap.size+1+1+1+1,0,none⟩)] 45)) (xV.fr Uv (by simp));simp only[World.size_alloc]at hsrc;obtain⟨W0,hW0⟩:∃W0,W0=((((((((w.alloc (.cells #[.slice (some ⟨g,0,none⟩) R.length c] 23)).alloc (.map #[] 0)).alloc (.map #[] 0)).alloc (.map #[] 0)).alloc (.cells #[.slice (some ⟨g,0,none⟩) R.length c,.bool free,.map (some (w.heap.size+1)),.map (some (w.heap.size+1+1)),.map (some (w.heap.size+1+1+1)),.slice none 0 0,.slice none 0 0] 69)).alloc (.cells #[.pointer (some ⟨w.heap.size+1+1+1+1,0,none⟩)] 45)).alloc (.cells #[.slice (some ⟨g,0,none⟩) R.length c] 23)).alloc (.cells #[.int .i64 ((0:Nat):Int)] 3)):=⟨_,rfl⟩
 have hB0:lX R g c 0 (w.heap.size+1+1+1+1+1+1+1) (w.heap.size+1+1+1+1+1+1) W0:=by rw[hW0];exact hsrc
 have hsz:W0.heap.size=w.heap.size+1+1+1+1+1+1+1+1:=by rw[hW0];simp only[World.size_alloc]
 have hf0:Fr [] w W0:=by rw[hW0];exact(Uv.alloc _).alloc _
 have hI0:BG R w g c free [] W0:=by
  rw[hW0];have a0:=au.new w #[.slice (some ⟨g,0,none⟩) R.length c] 23;have m1:eP ((w.alloc (.cells #[.slice (some ⟨g,0,none⟩) R.length c] 23)).alloc (.map #[] 0)) (w.heap.size+1) []:=⟨0,_,by have:=World.ownsMap_made (w.alloc (.cells #[.slice (some ⟨g,0,none⟩) R.length c] 23)) Tryz.prog 9 (unitElem (H:=Unit));simpa only[World.size_alloc]using this,by simp,fun x=>by simp[Maps.has]⟩
  have m2:MapAt (((w.alloc (.cells #[.slice (some ⟨g,0,none⟩) R.length c] 23)).alloc (.map #[] 0)).alloc (.map #[] 0)) (w.heap.size+1+1) []:=⟨0,_,by have:=World.ownsMap_made ((w.alloc (.cells #[.slice (some ⟨g,0,none⟩) R.length c] 23)).alloc (.map #[] 0)) Tryz.prog 9 (plainElem (H:=Unit) Tryz.prog 3);simpa only[World.size_alloc]using this,by simp,fun x=>by simp[Maps.has,lookup,DataW.atKey]⟩
  have m3:eP ((((w.alloc (.cells #[.slice (some ⟨g,0,none⟩) R.length c] 23)).alloc (.map #[] 0)).alloc (.map #[] 0)).alloc (.map #[] 0)) (w.heap.size+1+1+1) []:=⟨0,_,by have:=World.ownsMap_made (((w.alloc (.cells #[.slice (some ⟨g,0,none⟩) R.length c] 23)).alloc (.map #[] 0)).alloc (.map #[] 0)) Tryz.prog 9 (unitElem (H:=Unit));simpa only[World.size_alloc]using this,by simp,fun x=>by simp[Maps.has]⟩
  have a4:=au.new ((((w.alloc (.cells #[.slice (some ⟨g,0,none⟩) R.length c] 23)).alloc (.map #[] 0)).alloc (.map #[] 0)).alloc (.map #[] 0)) #[.slice (some ⟨g,0,none⟩) R.length c,.bool free,.map (some (w.heap.size+1)),.map (some (w.heap.size+1+1)),.map (some (w.heap.size+1+1+1)),.slice none 0 0,.slice none 0 0] 69;have a5:=au.new (((((w.alloc (.cells #[.slice (some ⟨g,0,none⟩) R.length c] 23)).alloc (.map #[] 0)).alloc (.map #[] 0)).alloc (.map #[] 0)).alloc (.cells #[.slice (some ⟨g,0,none⟩) R.length c,.bool free,.map (some (w.heap.size+1)),.map (some (w.heap.size+1+1)),.map (some (w.heap.size+1+1+1)),.slice none 0 0,.slice none 0 0] 69)) #[.pointer (some ⟨w.heap.size+1+1+1+1,0,none⟩)] 45;simp only[World.size_alloc]at a4 a5;exact⟨a0.fr ((((((((Fr.refl [] _).alloc _).alloc _).alloc _).alloc _).alloc _).alloc _).alloc _) (by simp),a4.fr ((((Fr.refl [] _).alloc _).alloc _).alloc _) (by simp),a5.fr (((Fr.refl [] _).alloc _).alloc _) (by simp),m1.fr (((((((Fr.refl [] _).alloc _).alloc _).alloc _).alloc _).alloc _).alloc _),m2.fr ((((((Fr.refl [] _).alloc _).alloc _).alloc _).alloc _).alloc _),m3.fr (((((Fr.refl [] _).alloc _).alloc _).alloc _).alloc _),(Uv.alloc _).alloc _⟩
 rw[show(0:Int)=((0:Nat):Int)from rfl];rw[←hW0];clear hW0 hsrc
 refine wpIn_rangeFunc_ownH rfl h1 (gf:=30) (lb:=#[.pointer (some ⟨w.heap.size+1+1+1+1+1+1+1,0,none⟩),.pointer (some ⟨w.heap.size+1+1+1+1+1+1,0,none⟩)]) rfl trivial (enters_of Tryz.func30 (by kernel_rfl) rfl)
  (G8 (3-1) (by omega) (w.heap.size+1+1+1+1+1+1+1) (w.heap.size+1+1+1+1+1+1) R [] 0 g c n ks HT.out hlim W0 hB0) Fq (fun W l o o' _ ho hc _=>Fu W l o o' ho hc) (Below.refl _ _) (fun _=>rfl)
  (fun(pre:List { x:Nat // VP 0 ks x }) W=>BG R w g c free (pre.map (fun y:{ x:Nat // VP 0 ks x }=>y.1)) W)
  (fun c pre W=>False)
  (fun(pre:List { x:Nat // VP 0 ks x }) X Y row hh hg hr=>hh.turn hg (fun k e=>by have:=(hr k e).1;omega))
  (fun _ pre X Y row hh hg hr=>hh)
  hI0
  (fun x a' W=>a'={ tmps:=#[.slice (some ⟨g,0,none⟩) R.length c,.bool free,.pointer (some ⟨w.heap.size,0,none⟩),undef,.pointer none,.pointer (some ⟨w.heap.size+1+1+1+1+1,0,none⟩),.int .i64 (x.1:Int),undef,undef,undef,.slice (some ⟨g,0,none⟩) R.length c,.bool free,.map (some (w.heap.size+1)),.map (some (w.heap.size+1+1)),.map (some (w.heap.size+1+1+1)),.agg #[.slice (some ⟨g,0,none⟩) R.length c,.bool free,.map (some (w.heap.size+1)),.map (some (w.heap.size+1+1)),.map (some (w.heap.size+1+1+1)),.slice none 0 0,.slice none 0 0],.pointer (some ⟨w.heap.size+1+1+1+1,0,none⟩),.slice (some ⟨g,0,none⟩) R.length c,.func (.func 30) #[] #[.pointer (some ⟨w.heap.size+1+1+1+1+1+1+1,0,none⟩),.pointer (some ⟨w.heap.size+1+1+1+1+1+1,0,none⟩)],.int .i64 (x.1:Int),undef,undef,undef,undef,undef,undef,undef,undef,undef,undef,undef,undef,undef,undef,undef,undef,undef,undef,undef,undef,undef,undef,undef,undef,undef,undef,undef,undef,undef,undef,undef,undef,undef,undef,undef,undef],defers:=[] })
  (fun x a' _ X Y row hs hg hr=>hs)
  ?assign ?body ?done ?stop
 case assign =>
  rintro l pre x W K hi hK
  gi_wp2
  exact hK _ _ ((KeepsOthers.refl _).from _) (fun k _ o h1 _=>h1) hi rfl
 case body =>
  rintro l pre x a' W hl _ hi rfl hlt;obtain⟨nd,hnd⟩:=VP.node HT.out x.2
  have Uw:=List.mem_of_getElem? hnd;have hnk:=HOK.out nd Uw;have hk0:0≤nd.kids:=Iw _ nd (by rw[←HRR.out];exact Uw);have KI:=xV.fr hi.fr (by simp);have cB:=KI.cells x.1 nd hnd;have n0:W.cell? ⟨g,x.1*6,none⟩=some (.int .i64 nd.kind):=cB 0 (by omega);have n1:W.cell? ⟨g,x.1*6+1,none⟩=some (.int .i64 nd.at'):=cB 1 (by omega);have n2:W.cell? ⟨g,x.1*6+2,none⟩=some (.int .i64 nd.kids):=cB 2 (by omega);have n3:W.cell? ⟨g,x.1*6+3,none⟩=some (.string ⟨nd.text.toArray⟩):=cB 3 (by omega);have n4:W.cell? ⟨g,x.1*6+4,none⟩=some (.int .i64 nd.int):=cB 4 (by omega);have n5:W.cell? ⟨g,x.1*6+5,none⟩=some (.int .u64 nd.bits):=cB 5 (by omega);have hxl:(x.1:Int)<R.length:=by have:=(List.getElem?_eq_some_iff.1 hnd).1;omega
  have hgW:=KI.gl;have hlen:pre.length≤1099511627777:=by omega
  have abW:=Nv R (pre.map (·.1));rw[List.length_map]at abW
  obtain⟨gs1,gs2⟩:=KP R (pre.map (·.1)) x.1 nd hnd
  have hmap:(pre++[x]).map (·.1)=pre.map (·.1)++[x.1]:=by simp
  obtain⟨sc,sz,ss,sl⟩:=hi.sl.rules
  obtain⟨Wb,ET⟩:∃X,X=W.alloc (.cells #[.int .i64 nd.kind,.int .i64 nd.at',.int .i64 nd.kids,.string ⟨nd.text.toArray⟩,.int .i64 nd.int,.int .u64 nd.bits] 40):=⟨_,rfl⟩
  have Rc:Fr [] W Wb:=by rw[ET];exact(Fr.refl _ _).alloc _
  have hib:=hi.frn Rc;have b7:au Wb W.heap.size #[.int .i64 nd.kind,.int .i64 nd.at',.int .i64 nd.kids,.string ⟨nd.text.toArray⟩,.int .i64 nd.int,.int .u64 nd.bits] 40:=by rw[ET];exact au.new _ _ _
  have hx9:nd.text.length≤maxLen:=by have:=hnk.text;simp[maxLen];omega
  have hkey:=uj hx9;have hmb:=hi.fr.size;have GS:=Lib.hid (And.intro gs1 gs2);have HND:=Lib.hid hnd;have Jh:=Lib.hid hib;have HI:=Lib.hid hi;have HFB:=Lib.hid Rc;have HRW:=Lib.hid KI
  have Tt:∀(w1:World) (b:Nat) (es:Array MapEntry) (cl:Nat),Wb.heap[b]? = some (.map es cl)→b<w.heap.size+1+1+1→(∀k,k<Wb.heap.size→k≠b→w1.heap[k]? = Wb.heap[k]?)→nH [w.heap.size+1+1+1+1+1+1+1,w.heap.size+1+1+1+1+1+1,g] W w1:=fun w1 b es cl hb hbl hk k hkm o ho hc=>by
   have h9:=(Rc.block k (Array.getElem?_eq_some_iff.1 ho).1 (by simp)).trans ho;refine(hk k (Array.getElem?_eq_some_iff.1 h9).1 (fun e=>?_)).trans h9
   subst e;rw[h9]at hb;cases hb;cases hc
  clear gs1 gs2 hib hi Rc KI cB hnd Uw;by_cases hk:(nd.kind==2)=true
  ·obtain⟨nn,D,hown,hnn,hhas⟩:=Jh.out.Je
   have hnl:nn<maxLen:=by simp[maxLen];omega
   obtain⟨es,cl,Hl⟩:=Jh.out.Je.obj
   obtain⟨w1,hrun,hown1,hgr⟩:=World.ownsMap.update (fI (w':=Wb.drew) hown rfl) l6 Tryz.underlying64 hnl hkey (unitElem_mk (H:=Unit))
   have hne:∀k c T,au Wb k c T→au w1 k c T:=fun k c T hB=>hB.grown (dL hgr) (fun e=>by injection e with e;subst e;have:=Hl.symm.trans hB;cases this)
   have hS:(fun X:World=>au X (w.heap.size+1+1+1+1+1) #[.pointer (some ⟨w.heap.size+1+1+1+1,0,none⟩)] 45∧au X (w.heap.size+1+1+1+1) #[.slice (some ⟨g,0,none⟩) R.length c,.bool free,.map (some (w.heap.size+1)),.map (some (w.heap.size+1+1)),.map (some (w.heap.size+1+1+1)),.slice none 0 0,.slice none 0 0] 69∧au X W.heap.size #[.int .i64 nd.kind,.int .i64 nd.at',.int .i64 nd.kids,.string ⟨nd.text.toArray⟩,.int .i64 nd.int,.int .u64 nd.bits] 40) Wb.drew:=⟨Jh.out.pt,Jh.out.oP,b7⟩
   have hS1:(fun X:World=>au X (w.heap.size+1+1+1+1+1) #[.pointer (some ⟨w.heap.size+1+1+1+1,0,none⟩)] 45∧au X (w.heap.size+1+1+1+1) #[.slice (some ⟨g,0,none⟩) R.length c,.bool free,.map (some (w.heap.size+1)),.map (some (w.heap.size+1+1)),.map (some (w.heap.size+1+1+1)),.slice none 0 0,.slice none 0 0] 69∧au X W.heap.size #[.int .i64 nd.kind,.int .i64 nd.at',.int .i64 nd.kids,.string ⟨nd.text.toArray⟩,.int .i64 nd.int,.int .u64 nd.bits] 40) w1:=⟨hne _ _ _ Jh.out.pt,hne _ _ _ Jh.out.oP,hne _ _ _ b7⟩
   gi_wp2
   rw[←ET];clear ET;apply dY (S:=fun X:World=>au X (w.heap.size+1+1+1+1+1) #[.pointer (some ⟨w.heap.size+1+1+1+1,0,none⟩)] 45∧au X (w.heap.size+1+1+1+1) #[.slice (some ⟨g,0,none⟩) R.length c,.bool free,.map (some (w.heap.size+1)),.map (some (w.heap.size+1+1)),.map (some (w.heap.size+1+1+1)),.slice none 0 0,.slice none 0 0] 69∧au X W.heap.size #[.int .i64 nd.kind,.int .i64 nd.at',.int .i64 nd.kids,.string ⟨nd.text.toArray⟩,.int .i64 nd.int,.int .u64 nd.bits] 40)
   case hm=>kernel_rfl
   case hd=>kernel_rfl
   case h =>
    refine tkn 0 (.pointer (some ⟨w.heap.size+1+1+1+1,0,none⟩)) rfl hS (fun X hX=>?_) ?_
    ·obtain⟨k1,k2,k3⟩:=hX;obtain⟨c1,_,_,_⟩:=k1.rules;obtain⟨c2,_,_,_⟩:=k2.rules;obtain⟨c3,_,_,_⟩:=k3.rules;clear k1 k2 k3;go_simp
    simp only[Act.put,acts];refine tkn 1 (.pointer (some ⟨w.heap.size+1+1+1+1,0,none⟩)) rfl hS (fun X hX=>?_) ?_
    ·go_simp
    simp only[Act.put,acts];refine tkn 2 (.pointer (some ⟨w.heap.size+1+1+1+1,2,none⟩)) rfl hS (fun X hX=>?_) ?_
    ·go_simp
    simp only[Act.put,acts];refine tkn 3 (.map (some (w.heap.size+1))) rfl hS (fun X hX=>?_) ?_
    ·obtain⟨k1,k2,k3⟩:=hX;obtain⟨c1,_,_,_⟩:=k1.rules;obtain⟨c2,_,_,_⟩:=k2.rules;obtain⟨c3,_,_,_⟩:=k3.rules;clear k1 k2 k3;go_simp
    simp only[Act.put,acts];refine tkn 4 (.pointer (some ⟨W.heap.size,3,none⟩)) rfl hS (fun X hX=>?_) ?_
    ·go_simp
    simp only[Act.put,acts];refine tkn 5 (.string ⟨nd.text.toArray⟩) rfl hS (fun X hX=>?_) ?_
    ·obtain⟨k1,k2,k3⟩:=hX;obtain⟨c1,_,_,_⟩:=k1.rules;obtain⟨c2,_,_,_⟩:=k2.rules;obtain⟨c3,_,_,_⟩:=k3.rules;clear k1 k2 k3;go_simp
    simp only[Act.put,acts];refine tkn 6 (.agg #[]) rfl hS (fun X hX=>?_) ?_
    ·go_simp
    simp only[Act.put,acts];refine wpAnyH_all (rs:=[7]) (by kernel_rfl) (by simp) ?_;intro i2 hi2;obtain rfl:i2=7:=by simpa using hi2
    refine wpOp_step rfl (fun K0 dz=>?_);rw[if_pos (by rfl)];refine qF (mv:=.map (some (w.heap.size+1))) (key:=.string ⟨nd.text.toArray⟩) (val:=.agg #[]) (.tmp 30) (.tmp 32) (.tmp 33) 64 rfl rfl rfl rfl hrun ?_;exact dz _ _ ⟨hS1,wpAnyH_done (by kernel_rfl) ⟨rfl,rfl,rfl⟩ _⟩
   case hK =>
    gi_wp2
    refine⟨KeepsFrom.trans (KeepsFrom.of_grownBy (jW HFB.out) (fun j e=>by cases e)) (KeepsFrom.of_grownBy (dL hgr) (fun j e=>by injection e with e;omega)),Tt w1 _ es cl Hl (by omega) (fun k h1 h2=>hgr.block k h1 (fun e=>h2 (by injection e))),?_⟩;show BG R w g c free _ w1;have Ux:=dL hgr;have hkeep:∀k,k<Wb.heap.size→k≠w.heap.size+1→w1.heap[k]? = Wb.heap[k]?:=fun k h1 h2=>hgr.block k h1 (fun e=>h2 (by injection e))
    have hb0:=Jh.out;refine⟨hne _ _ _ hb0.sl,hne _ _ _ hb0.oP,hne _ _ _ hb0.pt,?_,?_,hb0.Ea.eq (hkeep _ hb0.Ea.lt (by omega)),hb0.fr.grown Ux (fun k e=>.inr (by injection e with e;omega))⟩
    ·rw[hmap,GS.out.1,if_pos hk];refine eP.like ⟨nn+1,_,hown1,by rw[List.length_cons];omega,FB hown.isMap hx9 hhas _⟩ (by simp) (fun y=>?_);rw[Bool.eq_iff_iff];simp[or_comm]
    ·rw[hmap,GS.out.2,if_pos hk];exact hb0.par.eq (hkeep _ hb0.par.lt (by omega))
  ·have hk':(nd.kind==2)=false:=by simpa using hk
   obtain⟨nn,D,hown,hnn,Tv⟩:=Jh.out.par
   obtain⟨v,ps,Tw,hlv⟩:=World.ownsMap.look_ok (fI (w':=Wb.drew) hown rfl) l6 Tryz.underlying65 (z:=.int .i64 0) (Hz _) (plainElem_int Tryz.underlying3 (by decide)) hkey
   obtain⟨cv,rfl,hcv,aeB⟩:=plainElem_int_inv Tryz.underlying3 hlv
   have hlk:=(Tv nd.text).1;obtain⟨bb,hbb⟩:∃bb:Bool,Maps.has D (.string nd.text)=bb:=⟨_,rfl⟩
   rw[hbb]at Tw hlk
   clear hbb;have HLK:=Lib.hid hlk;clear hlk;have hS:(fun X:World=>au X (w.heap.size+1+1+1+1+1) #[.pointer (some ⟨w.heap.size+1+1+1+1,0,none⟩)] 45∧au X (w.heap.size+1+1+1+1) #[.slice (some ⟨g,0,none⟩) R.length c,.bool free,.map (some (w.heap.size+1)),.map (some (w.heap.size+1+1)),.map (some (w.heap.size+1+1+1)),.slice none 0 0,.slice none 0 0] 69∧au X W.heap.size #[.int .i64 nd.kind,.int .i64 nd.at',.int .i64 nd.kids,.string ⟨nd.text.toArray⟩,.int .i64 nd.int,.int .u64 nd.bits] 40) Wb.drew:=⟨Jh.out.pt,Jh.out.oP,b7⟩
   gi_wp2
   rw[←ET];clear ET;apply dY (S:=fun X:World=>au X (w.heap.size+1+1+1+1+1) #[.pointer (some ⟨w.heap.size+1+1+1+1,0,none⟩)] 45∧au X (w.heap.size+1+1+1+1) #[.slice (some ⟨g,0,none⟩) R.length c,.bool free,.map (some (w.heap.size+1)),.map (some (w.heap.size+1+1)),.map (some (w.heap.size+1+1+1)),.slice none 0 0,.slice none 0 0] 69∧au X W.heap.size #[.int .i64 nd.kind,.int .i64 nd.at',.int .i64 nd.kids,.string ⟨nd.text.toArray⟩,.int .i64 nd.int,.int .u64 nd.bits] 40)
   case hm=>kernel_rfl
   case hd=>kernel_rfl
   case h =>
    refine tkn 0 (.pointer (some ⟨w.heap.size+1+1+1+1,0,none⟩)) rfl hS (fun X hX=>?_) ?_
    ·obtain⟨k1,k2,k3⟩:=hX;obtain⟨c1,_,_,_⟩:=k1.rules;obtain⟨c2,_,_,_⟩:=k2.rules;obtain⟨c3,_,_,_⟩:=k3.rules;clear k1 k2 k3;go_simp
    simp only[Act.put,acts];refine tkn 1 (.pointer (some ⟨w.heap.size+1+1+1+1,0,none⟩)) rfl hS (fun X hX=>?_) ?_
    ·go_simp
    simp only[Act.put,acts];refine tkn 2 (.pointer (some ⟨w.heap.size+1+1+1+1,3,none⟩)) rfl hS (fun X hX=>?_) ?_
    ·go_simp
    simp only[Act.put,acts];refine tkn 3 (.map (some (w.heap.size+1+1))) rfl hS (fun X hX=>?_) ?_
    ·obtain⟨k1,k2,k3⟩:=hX;obtain⟨c1,_,_,_⟩:=k1.rules;obtain⟨c2,_,_,_⟩:=k2.rules;obtain⟨c3,_,_,_⟩:=k3.rules;clear k1 k2 k3;go_simp
    simp only[Act.put,acts];refine tkn 4 (.pointer (some ⟨W.heap.size,3,none⟩)) rfl hS (fun X hX=>?_) ?_
    ·go_simp
    simp only[Act.put,acts];refine tkn 5 (.string ⟨nd.text.toArray⟩) rfl hS (fun X hX=>?_) ?_
    ·obtain⟨k1,k2,k3⟩:=hX;obtain⟨c1,_,_,_⟩:=k1.rules;obtain⟨c2,_,_,_⟩:=k2.rules;obtain⟨c3,_,_,_⟩:=k3.rules;clear k1 k2 k3;go_simp
    simp only[Act.put,acts];refine wpAnyH_all (rs:=[6]) (by kernel_rfl) (by simp) ?_;intro i2 hi2;obtain rfl:i2=6:=by simpa using hi2
    refine wpOp_step rfl (fun K0 dz=>?_);rw[if_pos (by rfl)];refine Dm (mv:=.map (some (w.heap.size+1+1))) (key:=.string ⟨nd.text.toArray⟩) (r:=.tuple #[.int .i64 cv,.bool bb]) (.tmp 38) (.tmp 40) 65 rfl rfl rfl Tw ?_;refine dz _ _ ⟨hS,?_⟩;refine tkn 7 (.tuple #[.int .i64 cv,.bool bb]) rfl hS (fun X hX=>?_) ?_
    ·go_simp
    simp only[Act.put,acts];refine tkn 8 (.int .i64 cv) rfl hS (fun X hX=>?_) ?_
    ·go_simp
    simp only[Act.put,acts];refine tkn 9 (.bool bb) rfl hS (fun X hX=>?_) ?_
    ·go_simp
    simp only[Act.put,acts];refine tkn 10 (.int .i64 cv) rfl hS (fun X hX=>?_) ?_
    ·go_simp
    simp only[Act.put,acts];refine tkn 11 (.bool bb) rfl hS (fun X hX=>?_) ?_
    ·go_simp
    simp only[Act.put,acts];exact wpAnyH_done (by kernel_rfl) ⟨rfl,rfl,rfl⟩ _
   case hK =>
    cases bb with
    | true =>
     obtain⟨a,hl⟩:=Option.isSome_iff_exists.1 HLK.out.symm
     gi_wp2
     refine⟨KeepsFrom.of_grownBy (jW (HFB.out.trans (Fr.refl _ _).drew)) (fun j e=>by cases e),nH.aC (HFB.out.trans (Fr.refl _ _).drew),?_⟩;show BG R w g c free _ Wb.drew;have hb0:=Jh.out.frn (Fr.refl [] _).drew;refine⟨hb0.sl,hb0.oP,hb0.pt,?_,?_,hb0.Ea,hb0.fr⟩
     ·rw[hmap,GS.out.1,if_neg hk];exact hb0.Je
     ·rw[hmap,GS.out.2,if_neg hk];obtain⟨nn2,D2,o1,o2,o3⟩:=hb0.par
      refine⟨nn2,D2,o1,by rw[List.length_append,List.length_singleton];omega,fun y=>?_⟩
      have e1:lookup (xU R (pre.map (·.1))++[(nd.text,nd.kids-1)]) y=lookup (xU R (pre.map (·.1))) y:=by
       rw[lookup_append];cases hy:lookup (xU R (pre.map (·.1))) y with
       | some b=>rfl
       | none =>
        have:nd.text≠y:=fun e=>by rw[←e,hl]at hy;cases hy
        simp[lookup,this]
      rw[e1];exact o3 y
    | false =>
     have hl:lookup (xU R (pre.map (·.1))) nd.text=none:=by
      have:=HLK.out.symm
      simpa using this
     have hnl:nn<maxLen:=by simp[maxLen];omega
     obtain⟨es,cl,Hl⟩:∃es cl,Wb.heap[w.heap.size+1+1]? = some (Obj.map es cl):=by
      obtain⟨es,cl,hb,_⟩:=hown
      exact⟨es,cl,hb⟩
     have hwf:(Lit.int .i64 (nd.kids-1)).wf=true:=by have:=hnk.kids;simp[Lit.wf,IntKind.min,IntKind.max,IntKind.signed,IntKind.bits];omega
     obtain⟨w1,hrun,hown1,hgr⟩:=World.ownsMap.update (fI (w':=Wb.drew.drew) hown rfl) l6 Tryz.underlying65 hnl hkey (plainElem_int (H:=Unit) Tryz.underlying3 hwf)
     have hne:∀k c T,au Wb k c T→au w1 k c T:=fun k c T hB=>hB.grown (dL (dL hgr)) (fun e=>by injection e with e;subst e;have:=Hl.symm.trans hB;cases this)
     have hS:(fun X:World=>au X (w.heap.size+1+1+1+1+1) #[.pointer (some ⟨w.heap.size+1+1+1+1,0,none⟩)] 45∧au X (w.heap.size+1+1+1+1) #[.slice (some ⟨g,0,none⟩) R.length c,.bool free,.map (some (w.heap.size+1)),.map (some (w.heap.size+1+1)),.map (some (w.heap.size+1+1+1)),.slice none 0 0,.slice none 0 0] 69∧au X W.heap.size #[.int .i64 nd.kind,.int .i64 nd.at',.int .i64 nd.kids,.string ⟨nd.text.toArray⟩,.int .i64 nd.int,.int .u64 nd.bits] 40) Wb.drew.drew:=⟨Jh.out.pt,Jh.out.oP,b7⟩
     have hS1:(fun X:World=>au X (w.heap.size+1+1+1+1+1) #[.pointer (some ⟨w.heap.size+1+1+1+1,0,none⟩)] 45∧au X (w.heap.size+1+1+1+1) #[.slice (some ⟨g,0,none⟩) R.length c,.bool free,.map (some (w.heap.size+1)),.map (some (w.heap.size+1+1)),.map (some (w.heap.size+1+1+1)),.slice none 0 0,.slice none 0 0] 69∧au X W.heap.size #[.int .i64 nd.kind,.int .i64 nd.at',.int .i64 nd.kids,.string ⟨nd.text.toArray⟩,.int .i64 nd.int,.int .u64 nd.bits] 40) w1:=⟨hne _ _ _ Jh.out.pt,hne _ _ _ Jh.out.oP,hne _ _ _ b7⟩
     have hkb:=hnk.kids
     gi_wp2
     apply dY (S:=fun X:World=>au X (w.heap.size+1+1+1+1+1) #[.pointer (some ⟨w.heap.size+1+1+1+1,0,none⟩)] 45∧au X (w.heap.size+1+1+1+1) #[.slice (some ⟨g,0,none⟩) R.length c,.bool free,.map (some (w.heap.size+1)),.map (some (w.heap.size+1+1)),.map (some (w.heap.size+1+1+1)),.slice none 0 0,.slice none 0 0] 69∧au X W.heap.size #[.int .i64 nd.kind,.int .i64 nd.at',.int .i64 nd.kids,.string ⟨nd.text.toArray⟩,.int .i64 nd.int,.int .u64 nd.bits] 40)
     case hm=>kernel_rfl
     case hd=>kernel_rfl
     case h =>
      refine tkn 0 (.pointer (some ⟨w.heap.size+1+1+1+1,0,none⟩)) rfl hS (fun X hX=>?_) ?_
      ·obtain⟨k1,k2,k3⟩:=hX;obtain⟨c1,_,_,_⟩:=k1.rules;obtain⟨c2,_,_,_⟩:=k2.rules;obtain⟨c3,_,_,_⟩:=k3.rules;clear k1 k2 k3;go_simp
      simp only[Act.put,acts];refine tkn 1 (.pointer (some ⟨w.heap.size+1+1+1+1,0,none⟩)) rfl hS (fun X hX=>?_) ?_
      ·go_simp
      simp only[Act.put,acts];refine tkn 2 (.pointer (some ⟨w.heap.size+1+1+1+1,3,none⟩)) rfl hS (fun X hX=>?_) ?_
      ·go_simp
      simp only[Act.put,acts];refine tkn 3 (.map (some (w.heap.size+1+1))) rfl hS (fun X hX=>?_) ?_
      ·obtain⟨k1,k2,k3⟩:=hX;obtain⟨c1,_,_,_⟩:=k1.rules;obtain⟨c2,_,_,_⟩:=k2.rules;obtain⟨c3,_,_,_⟩:=k3.rules;clear k1 k2 k3;go_simp
      simp only[Act.put,acts];refine tkn 4 (.pointer (some ⟨W.heap.size,3,none⟩)) rfl hS (fun X hX=>?_) ?_
      ·go_simp
      simp only[Act.put,acts];refine tkn 5 (.string ⟨nd.text.toArray⟩) rfl hS (fun X hX=>?_) ?_
      ·obtain⟨k1,k2,k3⟩:=hX;obtain⟨c1,_,_,_⟩:=k1.rules;obtain⟨c2,_,_,_⟩:=k2.rules;obtain⟨c3,_,_,_⟩:=k3.rules;clear k1 k2 k3;go_simp
      simp only[Act.put,acts];refine tkn 6 (.pointer (some ⟨W.heap.size,2,none⟩)) rfl hS (fun X hX=>?_) ?_
      ·go_simp
      simp only[Act.put,acts];refine tkn 7 (.int .i64 nd.kids) rfl hS (fun X hX=>?_) ?_
      ·obtain⟨k1,k2,k3⟩:=hX;obtain⟨c1,_,_,_⟩:=k1.rules;obtain⟨c2,_,_,_⟩:=k2.rules;obtain⟨c3,_,_,_⟩:=k3.rules;clear k1 k2 k3;go_simp
      simp only[Act.put,acts];refine tkn 8 (.int .i64 (nd.kids-1)) rfl hS (fun X hX=>?_) ?_
      ·go_simp;try (rw[Go.IntWalk.i64_in _ (by omega)])
      simp only[Act.put,acts];refine wpAnyH_all (rs:=[9]) (by kernel_rfl) (by simp) ?_;intro i2 hi2;obtain rfl:i2=9:=by simpa using hi2
      refine wpOp_step rfl (fun K0 dz=>?_);rw[if_pos (by rfl)];refine qF (mv:=.map (some (w.heap.size+1+1))) (key:=.string ⟨nd.text.toArray⟩) (val:=.int .i64 (nd.kids-1)) (.tmp 49) (.tmp 51) (.tmp 54) 65 rfl rfl rfl rfl hrun ?_;exact dz _ _ ⟨hS1,wpAnyH_done (by kernel_rfl) ⟨rfl,rfl,rfl⟩ _⟩
     case hK =>
      gi_wp2
      refine⟨KeepsFrom.trans (KeepsFrom.of_grownBy (jW HFB.out) (fun j e=>by cases e)) (KeepsFrom.of_grownBy (dL (dL hgr)) (fun j e=>by injection e with e;omega)),Tt w1 _ es cl Hl (by omega) (fun k h1 h2=>hgr.block k h1 (fun e=>h2 (by injection e))),?_⟩;show BG R w g c free _ w1;have Ux:=dL (dL hgr);have hkeep:∀k,k<Wb.heap.size→k≠w.heap.size+1+1→w1.heap[k]? = Wb.heap[k]?:=fun k h1 h2=>hgr.block k h1 (fun e=>h2 (by injection e))
      have hb0:=Jh.out;refine⟨hne _ _ _ hb0.sl,hne _ _ _ hb0.oP,hne _ _ _ hb0.pt,?_,?_,hb0.Ea.eq (hkeep _ hb0.Ea.lt (by omega)),hb0.fr.grown Ux (fun k e=>.inr (by injection e with e;omega))⟩
      ·rw[hmap,GS.out.1,if_neg hk];exact hb0.Je.eq (hkeep _ hb0.Je.lt (by omega))
      ·rw[hmap,GS.out.2,if_neg hk];refine⟨nn+1,_,hown1,by rw[List.length_append,List.length_singleton];omega,fun y=>?_⟩;rw[lookup_append];by_cases hy:y=nd.text
       ·subst hy;rw[hl];simp[lookup,Maps.has_put_same hown.isMap (AZ _ hx9),Maps.atKey_put_same hown.isMap (AZ _ hx9)]
       ·have hne2:(Lit.string y)≠.string nd.text:=by intro e;injection e with e;exact hy e
        have hyn:(nd.text==y)=false:=by simp;exact fun e=>hy e.symm
        rw[Maps.has_put_other hne2,Maps.atKey_put_other hne2];simp only[lookup,hyn]
        have:=Tv y
        cases hly:lookup (xU R (pre.map (·.1))) y<;>rw[hly]at this<;>simpa using this
 case done =>
  rintro D xs W hD hS hi hK;obtain⟨pc,pz,ps,pl⟩:=hi.pt.rules
  gi_wp2
  refine⟨by simp,.inl ⟨_,_,rfl,run_takeDeferred hK,?_⟩⟩;have hi2:=hi.turn (grownBy_putObj' W D (.deferred none)) (fun k e=>by cases e;omega);have hx2:xs.map (·.1)=kpos 1 ks:=hS;rw[hx2]at hi2
  obtain⟨e1,e2⟩:=abX R [] ks 1 (by have:=congrArg List.tail HT.out;simpa[Tree.row,List.tail_drop]using this)
  have RV:=hi2.Je;have hpar:=hi2.par;rw[e1]at RV
  rw[e2]at hpar
  refine⟨_,results_tmp rfl _ _ _,w.heap.size+1+1+1+1,w.heap.size+1,w.heap.size+1+1,w.heap.size+1+1+1,rfl,?_,hi2.fr⟩;exact⟨⟨_,_,hi2.oP,⟨rfl,.inl ⟨rfl,rfl⟩⟩,⟨rfl,.inl ⟨rfl,rfl⟩⟩⟩,trivial,by simp,fun m hm=>(nomatch hm),RV,hpar,hi2.Ea,xV,hgl,hi2.fr.below,⟨by show w.heap.size≤w.heap.size+1+1+1+1;omega,by show w.heap.size≤w.heap.size+1+1+1;omega⟩,rfl,hV.fr hi2.fr (by simp),hV.le,hlim,HOK.out⟩
 case stop =>
  rintro D c pre W hD hSp hi hK;exact hi.elim
theorem Nw (q:Nat) (w:World) :
  CallsD Tryz.prog 28 #[.pointer (some ⟨q,0,none⟩)] .returning w fun e u' w'=>e=.returned (.tuple #[])∧u'=.returning∧w'=w:=by
 refine callsD_of_wpS Tryz.func28 rfl fun c₀ cs hu=>?_
 apply wpS_seq;apply wpS_region;simp[wpOpsS,go_sem,recoverD,hu,Tryz.ntmps28,Exit.thenS];refine wpS_of_wp ?_;simp only[Array.replicate_succ,Array.replicate_zero,List.push_toArray,List.append_toArray,List.nil_append,List.cons_append,List.setIfInBounds_toArray,List.set_cons_zero,List.set_cons_succ];go_wp2;cases c₀;simp_all[bodyPostS,results,Tryz.results28]
theorem KQ (q:Nat) (f:dS) (older:List PanicEntry) (w:World) (hq:au w q #[.int .i64 0,.int .i64 0] 26) :
  CallsD Tryz.prog 28 #[.pointer (some ⟨q,0,none⟩)] (.panicking ({ v:=.iface 26 (.agg #[.int .i64 f.code,.int .i64 f.at']),recovered:=false }::older)) w fun e u' w' =>
   e=.returned (.tuple #[])∧u'=.panicking ({ v:=.iface 26 (.agg #[.int .i64 f.code,.int .i64 f.at']),recovered:=true }::older) ∧
   au w' q #[.int .i64 f.code,.int .i64 f.at'] 26∧Fr [q] w w':=by
 obtain⟨rc,rz,bE,rb⟩:=hq.rules
 have O6:∀k,q<w.heap.size+k:=fun k=>by omega
 refine callsD_of_wpS Tryz.func28 rfl fun c₀ cs hu=>?_
 apply wpS_seq;apply wpS_region;simp[wpOpsS,go_sem,recoverD,hu,Tryz.ntmps28,Exit.thenS];refine wpS_of_wp ?_;simp only[Array.replicate_succ,Array.replicate_zero,List.push_toArray,List.append_toArray,List.nil_append,List.cons_append,List.setIfInBounds_toArray,List.set_cons_zero,List.set_cons_succ];go_wp2;have h2:au ((Ck.blk w q #[.int .i64 f.code,.int .i64 f.at'] 26).alloc (.cells #[.int .i64 f.code,.int .i64 f.at'] 26)) q #[.int .i64 f.code,.int .i64 f.at'] 26:=(au.blk rb).alloc _;have h3:Fr [q] w ((Ck.blk w q #[.int .i64 f.code,.int .i64 f.at'] 26).alloc (.cells #[.int .i64 f.code,.int .i64 f.at'] 26)):=(((Fr.refl _ _).blk (.inl (by simp)) _ _).alloc _)
 simp[bodyPostS,results,Tryz.results28,h2,h3]
theorem Uy {T:Tree} (hG:T.all Gm) (hk:T.n.kind=1) (hsz:T.size≤1099511627776):∀t∈T.ks,Ns t:=by
 obtain⟨n,ks⟩:=T
 intro t ht;have hA:t.all Gm:=dN hG.2 t ht;have hg:=hG.1.2;have hk:n.kind=1:=hk;unfold dR at hg;rw[if_pos hk]at hg
 obtain⟨tn,tk⟩:=t
 have hkk:=hg.2 _ ht;refine⟨hkk,?_,?_,fun m hm=>?_⟩
 ·rcases hkk with h2|h3
  ·have h2:tn.kind=2:=h2;have h4:=hA.1.2;unfold dR at h4;rw[if_neg (by omega),if_pos h2]at h4
   show oH sK tk;rw[h4.2];trivial
  ·have h3:tn.kind=3:=h3;exact FW tk hA.2 (Qm hA.1 (by omega))
 ·intro h3;exact(qE hA.1).2.2.2.2 h3
 ·obtain⟨h1,h2,h3⟩:=zA _ hA m hm
  have h4:(Tree.mk tn tk).size≤1099511627776:=Nat.le_trans (Nat.le_trans (Np _ ht) (by simp[Tree.size,Tree.ks])) hsz;have h5:=Iu _ hA m hm;exact⟨⟨h5.1,by omega⟩,h2,⟨by have:=h1.text;omega,by omega,by have:=h1.JK;omega,h1.JL,h1.Al,by have:=h1.Am;omega⟩⟩
theorem Tx {T:Tree} (hG:T.all Gm) (hsz:T.size≤1099511627776):∀m∈T.row,uQ m:=fun m hm=>by
 obtain⟨h1,h2,h3⟩:=zA _ hG m hm
 exact⟨by have:=h1.text;omega,by omega,by have:=h1.JK;omega,h1.JL,h1.Al,by have:=h1.Am;omega⟩
theorem Iy (Qn:∀S N,(S.R.length≤S.c∧S.c≤maxLen)→FV S N) (T:Tree) (hG:T.all Gm) (hk:T.n.kind=1) (hsz:T.size≤3000000) (g c:Nat) (free:Bool) (w:World) (hV:Vars w) (xV:J4 T.row g w) (hcap:T.row.length≤c∧c≤maxLen) :
  Calls Tryz.prog 16 #[.slice (some ⟨g,0,none⟩) T.row.length c,.bool free] w fun e w'=>e=.returned (.agg #[.int .i64 (bC T free).code,.int .i64 (bC T free).at'])∧Fr [] w w':=by
 have hmf:=nP;have hlen:=kg T;have hok:=Tx hG (by omega)
 have wh:cost T.row≤1099511627000:=by
  have:=Sd T.row (fun n hn=>(zA T hG n hn).1)
  rw[hlen]at this
  have h2:T.size*328200≤3000000*328200:=Nat.mul_le_mul_right _ hsz;omega
 obtain⟨txt,WV⟩:=Option.ne_none_iff_exists'.1 (KR T hG hk wh)
 have hNA:TY w.heap.size w (.slice (some ⟨g,0,none⟩) T.row.length c) T.row:=⟨_,_,rfl,fun _=>⟨g,rfl,xV.gl,xV.gl,xV.cells⟩⟩
 have hF1:Fr [] w (w.alloc (.cells #[.int .i64 0,.int .i64 0] 26)):=(Fr.refl _ _).alloc _;have hq0:=au.new w #[.int .i64 0,.int .i64 0] 26;have hpr:=D9 T.row (.slice (some ⟨g,0,none⟩) T.row.length c) (w.alloc (.cells #[.int .i64 0,.int .i64 0] 26)) (hV.fr hF1 (by simp)) ⟨_,_,rfl,fun _=>⟨g,rfl,by have:=xV.gl;simp;omega,hF1.lt xV.gl,(xV.fr hF1 (by simp)).cells⟩⟩ hok (by omega) wh;rw[WV]at hpr
 have hgo:∀w2,Fr [] (w.alloc (.cells #[.int .i64 0,.int .i64 0] 26)) w2→Calls Tryz.prog 17 #[.slice (some ⟨g,0,none⟩) T.row.length c,.bool free] w2 fun e w3=>∃bp,e=.returned (.pointer (some ⟨bp,0,none⟩))∧Fr [] w2 w3 ∧
   Calls Tryz.prog 29 #[.pointer (some ⟨bp,0,none⟩),.int .i64 0,.int .i64 0,.int .i64 0] w3 fun e w4=>Fr [] w2 w4∧((∃f,jg (Dy T free) T 0 0 ⟨[],[],[]⟩=.error f∧e=Db f)∨∃s',jg (Dy T free) T 0 0 ⟨[],[],[]⟩=.ok s'∧e=.returned (.tuple #[])):=fun w2 hf2=>by
  obtain⟨n,ks⟩:=T
  have hF2:=hF1.trans hf2;refine(BQ (Tree.mk n ks).row n ks g c free w2 rfl (xV.fr hF2 (by simp)) (hV.fr hF2 (by simp)) (by omega) hok).mono ?_
  rintro e w3 ⟨bp,mg,mp,ma,rfl,hK,hf3⟩;refine⟨bp,rfl,hf3,?_⟩;have hkk:n.kind=1:=hk;have hz:(Tree.mk n ks).size=sizes ks+1:=by simp[Tree.size]
  have hnp:=Nu (Qn _ (sizes ks) hcap) n ks [] 0 0 0 0 ⟨[],[],[]⟩ [] w3 (by omega) (by simp) (Uy hG hk (by omega)) ⟨fun l hl=>(nomatch hl),Nat.le_refl _⟩ (by omega) rfl rfl (by omega) (by omega) hK (by simp[hkk]) (by simp[hkk]) (by simp[hkk]) (by simp[hkk]) (by simp[hkk]) (by simp[hkk]) (by simp[hkk]) (by simp[hkk]) (by simp[hkk]) (by simp[hkk]) (by simp[hkk]) (by simp[hkk]) (by simp[hkk]);refine hnp.mono ?_;rintro e w4 (⟨f,h1,rfl,hlow⟩|⟨s',h1,rfl,hK4,_⟩)
  ·exact⟨Fr.of_below hlow,.inl ⟨f,h1,rfl⟩⟩
  ·exact⟨Fr.of_below hK4.low,.inr ⟨s',h1,rfl⟩⟩
 have adi:(T.row.length:Int)≤1099511627776:=by omega
 clear hNA wh hok hlen xV WV;cases hm:jg (Dy T free) T 0 0 ⟨[],[],[]⟩ with
 | error f =>
  have HP:Hid (bC T free=f):=by show _=_;unfold bC;rw[hm]
  rw[hm]at hgo
  clear hm
  go_enter_defers Tryz.func16,Tryz.ntmps16
  go_wp2_with (first|(go_at_call 27;refine hpr.mono ?_;rintro e w2 ⟨rfl,hf2⟩;simp only[sH])|(go_at_call 17;refine(hgo _ hf2).mono ?_;rintro e w3 ⟨bp,rfl,hf3,aD⟩))
  go_at_call 29
  refine aD.mono ?_;rintro e w4 ⟨eY,(⟨f2,h1,rfl⟩|⟨s2,h1,rfl⟩)⟩
  ·obtain rfl:f=f2:=by injection h1
   have hq4:=(hq0.fr hf2 (by simp)).fr eY (by simp);refine leaves_cons (f:=28) (args:=#[.pointer (some ⟨w.heap.size,0,none⟩)]) (by simp) (by simp[go_sem]) ?_;refine(KQ w.heap.size f [] w4 hq4).mono ?_
   rintro e u' w5 ⟨rfl,rfl,uh,fF⟩;obtain⟨qc,qz,bS,qb⟩:=uh.rules
   have hF:Fr [] w w5:=((hF1.trans hf2).trans eY).then fF (by simp);have hout:(Ending.returned (Value.agg #[.int .i64 f.code,.int .i64 f.at']))=Ending.returned (.agg #[.int .i64 (bC T free).code,.int .i64 (bC T free).at'])∧Fr [] w w5:=⟨by rw[HP.out],hF⟩
   simp[Leaves,settle,results,Tryz.results16,go_sem,qc];exact⟨by rw[HP.out];exact⟨rfl,rfl⟩,hF⟩
  ·cases h1
 | ok s' =>
  have HP:Hid (bC T free=⟨0,0⟩):=by show _=_;unfold bC;rw[hm]
  rw[hm]at hgo
  clear hm
  go_enter_defers Tryz.func16,Tryz.ntmps16
  go_wp2_with (first|(go_at_call 27;refine hpr.mono ?_;rintro e w2 ⟨rfl,hf2⟩;simp only[sH])|(go_at_call 17;refine(hgo _ hf2).mono ?_;rintro e w3 ⟨bp,rfl,hf3,aD⟩))
  go_at_call 29
  refine aD.mono ?_;rintro e w4 ⟨eY,(⟨f2,h1,rfl⟩|⟨s2,h1,rfl⟩)⟩
  ·cases h1
  ·have hq4:=(hq0.fr hf2 (by simp)).fr eY (by simp);obtain⟨rc,rz,bE,rb⟩:=hq4.rules
   go_wp2;have uh:au (Ck.blk w4 w.heap.size #[.int .i64 0,.int .i64 0] 26) w.heap.size #[.int .i64 0,.int .i64 0] 26:=au.blk rb;have hF:Fr [] w (Ck.blk w4 w.heap.size #[.int .i64 0,.int .i64 0] 26):=((hF1.trans hf2).trans eY).blk (.inr (Nat.le_refl _)) _ _;obtain⟨W5,gU⟩:∃X,X=Ck.blk w4 w.heap.size #[.int .i64 0,.int .i64 0] 26:=⟨_,rfl⟩
   rw[←gU]at uh hF ⊢
   clear gU;obtain⟨qc,qz,bS,qb⟩:=uh.rules
   refine leaves_cons (f:=28) (args:=#[.pointer (some ⟨w.heap.size,0,none⟩)]) (by simp) (by simp[go_sem]) ?_;refine(Nw w.heap.size W5).mono ?_
   rintro e u' w6 ⟨rfl,rfl,rfl⟩;simp[Leaves,settle,results,Tryz.results16,go_sem,qc];exact⟨by rw[HP.out];exact⟨rfl,rfl⟩,hF⟩
theorem Ny (l:List Ck.Node) (v:Value) (free:Bool) (w:World) (hV:Vars w) (hN:TY (w.heap.size+1) w v l) (hok:∀n∈l,uQ n) (hlim:l.length≤1099511627776) (wh:cost l≤1099511627000) (hp:print l=none) :
  Calls Tryz.prog 16 #[v,.bool free] w fun e w'=>e=.returned (.agg #[.int .i64 72,.int .i64 0])∧Fr [] w w':=by
 have hmf:=nP;have hF1:Fr [] w (w.alloc (.cells #[.int .i64 0,.int .i64 0] 26)):=(Fr.refl _ _).alloc _;have hq0:=au.new w #[.int .i64 0,.int .i64 0] 26
 have hpr:=D9 l v (w.alloc (.cells #[.int .i64 0,.int .i64 0] 26)) (hV.fr hF1 (by simp)) (by
  obtain⟨x,c,hv,h⟩:=hN
  refine⟨x,c,hv,fun hn=>?_⟩;obtain⟨g,h1,h2,h3,h4⟩:=h hn
  exact⟨g,h1,by simpa using h2,hF1.lt h3,fun i n hi k hk=>(hF1.nQ (p:=⟨g,i*6+k,none⟩) h3 (by simp)).trans (h4 i n hi k hk)⟩) hok hlim wh
 rw[hp]at hpr
 obtain⟨x,c,rfl,_⟩:=hN
 clear hp hok wh
 go_enter_defers Tryz.func16,Tryz.ntmps16
 go_wp2_with (go_at_call 27;refine hpr.mono ?_;rintro e w2 ⟨rfl,hf2⟩;simp only[sH];obtain⟨rc,rz,bE,rb⟩:=(hq0.fr hf2 (by simp)).rules)
 have hF:Fr [] w (Ck.blk w2 w.heap.size #[.int .i64 72,.int .i64 0] 26):=(hF1.trans hf2).blk (.inr (Nat.le_refl _)) _ _;have uh:au (Ck.blk w2 w.heap.size #[.int .i64 72,.int .i64 0] 26) w.heap.size #[.int .i64 72,.int .i64 0] 26:=au.blk rb;obtain⟨W5,gU⟩:∃X,X=Ck.blk w2 w.heap.size #[.int .i64 72,.int .i64 0] 26:=⟨_,rfl⟩
 rw[←gU]at uh hF ⊢
 clear gU;obtain⟨qc,qz,bS,qb⟩:=uh.rules
 simp[bodyPostD,Leaves,settle,results,Tryz.results16,go_sem,qc];exact hF
theorem xW (Qn:∀S N,(S.R.length≤S.c∧S.c≤maxLen)→FV S N) (T:Tree) (hG:T.all Gm) (hk:T.n.kind=1) (hsz:T.size≤3000000) (g c:Nat) (w:World) (hV:Vars w) (xV:J4 T.row g w) (hcap:T.row.length≤c∧c≤maxLen) :
  Calls Tryz.prog 15 #[.slice (some ⟨g,0,none⟩) T.row.length c] w fun e w'=>e=.returned (.agg #[.int .i64 (bC T false).code,.int .i64 (bC T false).at'])∧Fr [] w w':=by
 have hF1:Fr [] w (w.alloc (.cells #[.int .i64 0,.int .i64 0] 26)):=(Fr.refl _ _).alloc _;have hq0:=au.new w #[.int .i64 0,.int .i64 0] 26;have hl:=Iy Qn T hG hk hsz g c false (w.alloc (.cells #[.int .i64 0,.int .i64 0] 26)) (hV.fr hF1 (by simp)) (xV.fr hF1 (by simp)) hcap;clear xV hG hk hsz;generalize bC T false=f at *;go_enter Tryz.func15,Tryz.ntmps15
 go_wp2_with (go_at_call 16;refine hl.mono ?_;rintro e w2 ⟨rfl,hf2⟩;obtain⟨rc,rz,bE,rb⟩:=(hq0.fr hf2 (by simp)).rules)
 have hF:Fr [] w (Ck.blk w2 w.heap.size #[.int .i64 f.code,.int .i64 f.at'] 26):=(hF1.trans hf2).blk (.inr (Nat.le_refl _)) _ _;have uh:au (Ck.blk w2 w.heap.size #[.int .i64 f.code,.int .i64 f.at'] 26) w.heap.size #[.int .i64 f.code,.int .i64 f.at'] 26:=au.blk rb;obtain⟨W5,gU⟩:∃X,X=Ck.blk w2 w.heap.size #[.int .i64 f.code,.int .i64 f.at'] 26:=⟨_,rfl⟩
 rw[←gU]at uh hF ⊢
 clear gU;obtain⟨qc,qz,bS,qb⟩:=uh.rules
 simp[bodyPost,results,Tryz.results15,go_sem,qc];exact hF
theorem Eo:∀(l:List Ck.Node) (j:Nat) (n:Ck.Node) (k:Nat),l[j]? = some n→k<6→(kY l)[j*6+k]? = (tZ n)[k]?
 | [],j,n,k,h,_=>by cases h
 | a::l,0,n,k,h,hk=>by
  obtain rfl:a=n:=by simpa using h
  have:(tZ a).length=6:=rfl
  simp only[kY,List.flatMap_cons,Nat.zero_mul,Nat.zero_add];rw[List.getElem?_append_left (by omega)]
 | a::l,j+1,n,k,h,hk=>by
  have h2:=Eo l j n k (by simpa using h) hk
  have:(tZ a).length=6:=rfl
  simp only[kY,List.flatMap_cons]at h2 ⊢;rw[List.getElem?_append_right (by omega),this,←h2];congr 1;omega
theorem vg {W:World} {base:Nat} {v:Value} {l:List Ck.Node} (h:W.ownsRow base 40 6 v l.length (kY l)) (hl:l≠[]):∃g c,v=.slice (some ⟨g,0,none⟩) l.length c∧base≤g∧J4 l g W∧l.length≤c∧c≤maxLen:=by
 obtain⟨g,c,rfl,hb,hg⟩:=h.form (List.length_pos_iff.2 hl)
 obtain⟨h1,h2⟩:=bX h
 refine⟨g,c,rfl,hb,⟨hg,fun j n hn k hk=>?_⟩,h1,h2⟩;have hj:=(List.getElem?_eq_some_iff.1 hn).1;rw[h.cellAt (j*6+k) (by omega)];exact Eo l j n k hn hk
end Go.Proofs.YtoomapkcoibmhaaGreatDoor
end
