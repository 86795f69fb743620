/- A part of the proof. -/
import Derived.DeepKeys4
import Derived.Test.YtoomapkcoibmhaaGreatDoorQ29
set_option maxRecDepth 100000
set_option maxHeartbeats 12800000
set_option linter.all false
section
open Go Go.Proofs Go.RowKit Go.Shelf Go.Maps Ck
namespace Go.Proofs.YtoomapkcoibmhaaGreatDoor
attribute [local go_sem] Oper.semAt_some
theorem Tryz.laidOut:laidOutB Tryz.prog=true:=by kernel_rfl
theorem rowNode:(40:TypeId)<Tryz.prog.types.size:=of_decide_eq_true (by kernel_rfl)
theorem wideNode:(match Tryz.prog.underlying 40 with|some (.array _ _)|some (.struct _)=>true|_=>false)=true:=by rw[Tryz.underlying40]
theorem nodeKey:Keyed Tryz.prog 40:=Keyed.of_law (deep_law_laid Tryz.laidOut (m:=2) (by omega) rowNode (by kernel_rfl) wideNode)
def keyV (n:Ck.Node):Value:=.agg #[.int .i64 n.kind,.int .i64 0,.int .i64 n.kids,.string ⟨n.text.toArray⟩,.int .i64 n.int,.int .u64 n.bits]
structure KeyOk (n:Ck.Node):Prop where
 kind:0≤n.kind∧n.kind≤1000
 kids:0≤n.kids
 ok:NodeOk n
theorem keyV_some (n:Ck.Node) (h:KeyOk n):∃kl,keyOf Tryz.prog 40 (keyV n)=some kl:=by
 obtain⟨e,he⟩:∃e,Tryz.prog.types.size=e+1:=⟨Tryz.prog.types.size-1,by kernel_rfl⟩
 have h1:Tryz.prog.keyType 40=true:=by kernel_rfl
 have hc:Tryz.prog.cellsOf 40=6:=by kernel_rfl
 have hci:Tryz.prog.cellsOf 3=1:=by kernel_rfl
 have hcs:Tryz.prog.cellsOf 9=1:=by kernel_rfl
 have hcu:Tryz.prog.cellsOf 38=1:=by kernel_rfl
 have h2:(keyV n).formed Tryz.prog 40=true:=by simp[keyV,Value.formed,Tryz.underlying40,hc]
 have k1:=h.kind;have k2:=h.kids;have k3:=h.ok.kids;have k4:=h.ok.intL;have k5:=h.ok.intH;have k6:=h.ok.bitsL;have k7:=h.ok.bitsH;have k8:=h.ok.text
 have w1:(Lit.int .i64 n.kind).wf=true:=by simp[Lit.wf,IntKind.min,IntKind.max,IntKind.signed,IntKind.bits];omega
 have w2:(Lit.int .i64 0).wf=true:=by decide
 have w3:(Lit.int .i64 n.kids).wf=true:=by simp[Lit.wf,IntKind.min,IntKind.max,IntKind.signed,IntKind.bits];omega
 have w4:(Lit.int .i64 n.int).wf=true:=by simp[Lit.wf,IntKind.min,IntKind.max,IntKind.signed,IntKind.bits];omega
 have w5:(Lit.int .u64 n.bits).wf=true:=by simp[Lit.wf,IntKind.min,IntKind.max,IntKind.signed,IntKind.bits];omega
 have w6:n.text.length≤maxLen:=by simp[maxLen];omega
 have hci2:Tryz.prog.cellsOf 2=1:=by kernel_rfl
 have w7:(⟨n.text.toArray⟩:ByteArray).size≤maxLen:=by simpa[ByteArray.size]using w6
 unfold keyOf
 rw[Tryz.underlying40]
 simp only[h1,h2,he,Bool.and_self,if_true]
 simp[Program.keyLits,Tryz.underlying40,Tryz.underlying3,Tryz.underlying9,Tryz.underlying38,keyV,Value.cells,hc,hci,hcs,hcu,w1,w2,w3,w4,w5,w7,hci2,Tryz.underlying2]
theorem keyV_iff (n m:Ck.Node):keyV n=keyV m↔sameConst n m=true:=by
 unfold keyV sameConst
 constructor
 ·intro h
  simp at h
  simp[h]
 ·intro h
  simp at h
  obtain⟨⟨⟨⟨h1,h2⟩,h3⟩,h4⟩,h5⟩:=h
  rw[h1,h2,h3,h4,h5]
theorem keyV_key {n m:Ck.Node} {a b:Lit} (ha:keyOf Tryz.prog 40 (keyV n)=some a) (hb:keyOf Tryz.prog 40 (keyV m)=some b):a=b↔sameConst n m=true:=by
 rw[←keyV_iff]
 constructor
 ·rintro rfl;exact nodeKey.inj ha hb
 ·intro h;rw[h]at ha;exact Option.some.inj (ha.symm.trans hb)
def Met (w:World) (b q:Nat) (met:List Ck.Node):Prop :=
 ∃D,w.ownsMap (H:=Unit) Tryz.prog 40 unitElem b q D∧Maps.size D=met.length∧∀m:Ck.Node,∀kl,keyOf Tryz.prog 40 (keyV m)=some kl→Maps.has D kl=met.any (sameConst m)
theorem sameConst_any {n m:Ck.Node} {l:List Ck.Node} (h:sameConst n m=true):l.any (sameConst n)=l.any (sameConst m):=by
 have:∀x,sameConst n x=sameConst m x:=fun x=>by
  unfold sameConst at h ⊢
  simp at h
  obtain⟨⟨⟨⟨h1,h2⟩,h3⟩,h4⟩,h5⟩:=h
  rw[h1,h2,h3,h4,h5]
 rw[funext this]
theorem Met.put {w w1:World} {b q:Nat} {met:List Ck.Node} {n:Ck.Node} {D d:DataW Unit} {kl:Lit} (hown:w.ownsMap (H:=Unit) Tryz.prog 40 unitElem b q D) (hs:Maps.size D=met.length)
  (hh:∀m:Ck.Node,∀kl,keyOf Tryz.prog 40 (keyV m)=some kl→Maps.has D kl=met.any (sameConst m)) (hk:keyOf Tryz.prog 40 (keyV n)=some kl) (h1:w1.ownsMap (H:=Unit) Tryz.prog 40 unitElem b (q+1) (D.put kl d)) :
  Met w1 b (q+1) (if !(met.any (sameConst n))then n::met else met):=by
 have hz:=size_put (k:=kl) (hown.tidy nodeKey) d
 have hn:=hh n kl hk
 have hkl:=nodeKey.key hk
 have hhas:∀m:Ck.Node,∀ml,keyOf Tryz.prog 40 (keyV m)=some ml→Maps.has (D.put kl d) ml=(sameConst m n||met.any (sameConst m)):=fun m ml hm=>by
  by_cases e:ml=kl
  ·subst e
   rw[has_put_same hown.isMap hkl]
   rw[(keyV_key hm hk).1 rfl];rfl
  ·rw[has_put_other e,hh m ml hm]
   have:sameConst m n=false:=by
    rw[Bool.eq_false_iff];intro h;exact e ((keyV_key hm hk).2 h)
   rw[this];rfl
 rw[hn]at hz
 cases hb:met.any (sameConst n) with
 | true =>
  rw[hb]at hz
  refine⟨_,h1,by simpa[hs]using hz,fun m ml hm=>?_⟩
  rw[hhas m ml hm]
  cases hmn:sameConst m n with
  | true =>
   show(true||_)=met.any (sameConst m)
   rw[sameConst_any hmn,hb];rfl
  | false=>simp
 | false =>
  rw[hb]at hz
  refine⟨_,h1,by simpa[hs]using hz,fun m ml hm=>?_⟩
  rw[hhas m ml hm];simp
theorem Met.fr {w w':World} {b q:Nat} {met:List Ck.Node} (h:Met w b q met) (hf:Fr [] w w'):Met w' b q met:=by
 obtain⟨D,h1,h2,h3⟩:=h
 exact⟨D,ownsMap_eq h1 (hf.block b h1.lt (by simp)),h2,h3⟩
theorem Met.mono {w:World} {b q:Nat} {met:List Ck.Node} (h:Met w b q met):Met w b (q+1) met:=by
 obtain⟨D,⟨es,cl,h1,h2,h3,h4⟩,h5,h6⟩:=h
 exact⟨D,⟨es,cl,h1,h2,by omega,h4⟩,h5,h6⟩
theorem unlike_cons (n:Ck.Node) (l met:List Ck.Node):unlike (n::l) met=if (isConst n && !met.any (sameConst n))=true then unlike l (n::met)else unlike l met:=rfl
theorem cconstants_any (S:CSt) (hlim:S.R.length≤1099511627776) (hcap:S.R.length≤S.c∧S.c≤maxLen) (T:Tree) (rest:List Ck.Node) (i:Nat) (w:World) (hT:S.R.drop i=T.row++rest) (hw:HW S w) (hok:∀m∈T.row,KeyOk m) :
  Calls Tryz.prog 58 #[.pointer (some ⟨S.bp,0,none⟩),.int .i64 (i:Int)] w fun e w'=>e=.returned (.int .i64 ((Ck.constants T:Nat):Int))∧Fr [] w w':=by
 obtain⟨cs,hb,hcs⟩:=hw.rcd
 have hTl:i+T.row.length≤S.R.length:=by
  have:=congrArg List.length hT
  rw[List.length_drop,List.length_append]at this
  have h1:=row_size T
  have:=size_pos T
  omega
 have hends:=fun q=>ends_any S.bp S.R rest i S.g S.c T hT hlim ((w.alloc (.map #[] 0)).drewN q) (hw.row.fr (((Fr.refl [] w).alloc _).drewN q) (by simp)) cs (hb.fr (((Fr.refl [] w).alloc _).drewN q) (by simp)) hcs
 obtain⟨z,hz⟩:∃z,T.row.length=z:=⟨_,rfl⟩
 rw[hz]at hends hTl
 have hcq:=fun q=>Calls.quiet_of_same ((hends q).mono (fun e w' h=>⟨h.1,h.2.symm⟩))
 clear hends
 have hc1:((i+z:Nat):Int)≤S.c:=by have:=hcap.1;omega
 have hc2:(S.c:Int)≤9223372036854775807:=by have:=hcap.2;unfold maxLen at this;omega
 have hc3:(S.R.length:Int)≤S.c:=by have:=hcap.1;omega
 have hz1:1≤z:=by rw[←hz,row_size];exact size_pos T
 have hSi:¬S.c=i:=by omega
 have hi0:(i:Int)≤((i+z:Nat):Int):=by omega
 obtain⟨kc,kz,kset,kb⟩:=hb.rules
 have kc0:w.cell? ⟨S.bp,0,none⟩=some (.slice (some ⟨S.g,0,none⟩) S.R.length S.c):=(kc 0).trans hcs
 have kbk:∀q,S.bp<w.heap.size+q:=fun q=>by omega
 have HT:=Lib.hid hT;have HW0:=Lib.hid hw;have HOK:=Lib.hid hok;have HZ:=Lib.hid hz;have HTL:=Lib.hid hTl
 have hM0:Met (w.alloc (.map #[] 0)) w.heap.size 0 []:=⟨_,World.ownsMap_made w _ _ _,by simp[Maps.size],fun m kl h=>by simp[Maps.has]⟩
 have hmm:=@run_makeMap Tryz.prog
 clear hT hw hok hz hTl hcap hb hcs kc
 go_enter Tryz.func58,Tryz.ntmps58
 go_wp2_with (go_quiet ((go_at_call 53;exact hcq _)))
 have hzi:(z:Int)≤1099511627776:=by have:=HTL.out;omega
 have hU:Hid (∃met,Met ((w.alloc (.map #[] 0)).drewN nq) w.heap.size 0 met∧unlike (T.row.drop 0) met=unlike T.row []∧Fr [] w ((w.alloc (.map #[] 0)).drewN nq)):=⟨[],hM0.fr ((Fr.refl [] _).drewN nq),rfl,((Fr.refl [] w).alloc _).drewN nq⟩
 try simp only[Nat.add_sub_cancel_left,Int.natCast_add]
 go_loopw [7,19] (fun _x j wr=>∃q:Nat,j=.int .i64 q∧q≤z∧Hid (∃met,Met wr w.heap.size q met∧unlike (T.row.drop q) met=unlike T.row []∧Fr [] w wr)) (fun _ j _=>z-(intOf j).toNat)
 case atStart=>exact⟨0,rfl,Nat.zero_le _,hU⟩
 case round =>
  obtain⟨q,rfl,hq1,hq⟩:=hrel
  obtain⟨met,m1,m2,m3⟩:=hq.out
  clear hq
  by_cases hlt:q<z
  ·obtain⟨nd,hnd⟩:∃nd,T.row[q]? = some nd:=⟨_,List.getElem?_eq_getElem (by rw[HZ.out];exact hlt)⟩
   have hndR:S.R[i+q]? = some nd:=by
    have h1:=congrArg (fun l=>l[q]?) HT.out
    simp only[List.getElem?_drop]at h1
    rw[h1,List.getElem?_append_left (by rw[HZ.out];exact hlt),hnd]
   have hKO:=HOK.out nd (List.mem_of_getElem? hnd)
   obtain⟨kl,hkl⟩:=keyV_some nd hKO
   have hRW:=HW0.out.row.fr m3 (by simp)
   have hgl:=hRW.gl
   have nrow:=hRW.cells (i+q) nd hndR
   have n0:wr.cell? ⟨S.g,i*6+q*6,none⟩=some (.int .i64 nd.kind):=by have h1:=nrow 0 (by omega);rwa [show(i+q)*6+0=i*6+q*6 by omega]at h1
   have n1:wr.cell? ⟨S.g,i*6+q*6+1,none⟩=some (.int .i64 nd.at'):=by have h1:=nrow 1 (by omega);rwa [show(i+q)*6+1=i*6+q*6+1 by omega]at h1
   have n2:wr.cell? ⟨S.g,i*6+q*6+2,none⟩=some (.int .i64 nd.kids):=by have h1:=nrow 2 (by omega);rwa [show(i+q)*6+2=i*6+q*6+2 by omega]at h1
   have n3:wr.cell? ⟨S.g,i*6+q*6+3,none⟩=some (.string ⟨nd.text.toArray⟩):=by have h1:=nrow 3 (by omega);rwa [show(i+q)*6+3=i*6+q*6+3 by omega]at h1
   have n4:wr.cell? ⟨S.g,i*6+q*6+4,none⟩=some (.int .i64 nd.int):=by have h1:=nrow 4 (by omega);rwa [show(i+q)*6+4=i*6+q*6+4 by omega]at h1
   have n5:wr.cell? ⟨S.g,i*6+q*6+5,none⟩=some (.int .u64 nd.bits):=by have h1:=nrow 5 (by omega);rwa [show(i+q)*6+5=i*6+q*6+5 by omega]at h1
   have hdrop:T.row.drop q=nd::T.row.drop (q+1):=by
    rw[List.drop_eq_getElem_cons (by rw[HZ.out];exact hlt)]
    rw[List.getElem?_eq_getElem (by rw[HZ.out];exact hlt)]at hnd
    rw[Option.some.inj hnd]
   rw[hdrop]at m2
   have M2:=Lib.hid m2;have M3:=Lib.hid m3
   have hnq:q<maxLen:=by simp[maxLen];omega
   clear hnd hndR hRW nrow hdrop m2 m3
   cases hcn:isConst nd with
   | true =>
    obtain⟨D,hown,hsz,hhas⟩:=m1
    have hown2:=fun X (hX:Fr [] wr X)=>ownsMap_eq hown (hX.block _ hown.lt (by simp))
    have HH:=Lib.hid (And.intro hsz (And.intro hhas hown))
    have hk3:(nd.kind==26)=true∨((nd.kind==26)=false∧(nd.kind==27)=true)∨((nd.kind==26)=false∧(nd.kind==27)=false∧(nd.kind==28)=true):=by
     unfold isConst at hcn
     cases h1:(nd.kind==26)<;>cases h2:(nd.kind==27)<;>cases h3:(nd.kind==28)<;>simp[h1,h2,h3]at hcn ⊢
    have HCN:=Lib.hid hcn
    clear hcn hsz hhas hown
    rcases hk3 with k26|⟨k26,k27⟩|⟨k26,k27,k28⟩
    all_goals
     go_wp2_with (refine wpList_mapUpdate_own _ rfl _ _ _ 133 rfl 40 70 nodeKey Tryz.underlying133 unitElem w.heap.size q D rfl (hown2 _ ((Fr.refl [] _).alloc _)) hnq (keyV nd) _ kl rfl rfl hkl (.agg []) [] unitElem_mk ?_;intro w1 hown1 hg1)
     go_roundw
     case rel =>
      refine⟨q+1,by go_num,by omega,_,Met.put HH.out.2.2 HH.out.1 HH.out.2.1 hkl hown1,?_,(M3.out.alloc _).grown hg1 (fun k e=>.inr (by injection e with e;omega))⟩
      have h1:=M2.out
      rw[unlike_cons,HCN.out]at h1
      cases hma:met.any (sameConst nd)<;>rw[hma]at h1<;>exact h1
     case measure=>simp[intOf];omega
   | false =>
    have hk3:(nd.kind==26)=false∧(nd.kind==27)=false∧(nd.kind==28)=false:=by
     unfold isConst at hcn
     cases h1:(nd.kind==26)<;>cases h2:(nd.kind==27)<;>cases h3:(nd.kind==28)<;>simp[h1,h2,h3]at hcn ⊢
    obtain⟨k26,k27,k28⟩:=hk3
    have HCN:=Lib.hid hcn
    clear hcn
    go_wp2_with (fail)
    go_roundw
    case rel =>
     refine⟨q+1,by go_num,by omega,met,(m1.fr ((Fr.refl [] _).alloc _)).mono,?_,M3.out.alloc _⟩
     have h1:=M2.out
     rw[unlike_cons,HCN.out]at h1
     exact h1
    case measure=>simp[intOf];omega
  ·obtain rfl:q=z:=by omega
   have hlast:(met.length:Int)=(Ck.constants T:Nat):=by
    rw[←HZ.out,List.drop_length]at m2
    unfold Ck.constants
    rw[←m2];rfl
   obtain⟨D,hown,hsz,hhas⟩:=m1
   have HM:=Lib.hid (And.intro hlast m3)
   clear hlast m3 m2 hhas
   go_wp2_with (at_len;refine wpList_len_own _ rfl _ 133 rfl 40 70 Tryz.underlying133 unitElem w.heap.size q D rfl hown ?_)
   go_ret
   exact⟨by rw[←HM.out.1];rfl,HM.out.2⟩
end Go.Proofs.YtoomapkcoibmhaaGreatDoor
end
section
namespace Ck
theorem popB (X:Except Flt CS) (g:CS→Except Flt CS):(X >>= fun s'=>g { s' with scopes:=s'.scopes.tail })=((X >>= fun s'=>pure { s' with scopes:=s'.scopes.tail }) >>= g):=by
 cases X<;>rfl
end Ck
end
section
open Go Go.Proofs Go.RowKit Go.Shelf Go.Maps Ck
namespace Go.Proofs.YtoomapkcoibmhaaGreatDoor
attribute [local go_sem] Oper.semAt_some
theorem nodeF3_any {S:CSt} {N:Nat} (ih:NAny S N) (n:Ck.Node) (ks:List Tree) (rest:List Ck.Node) (i d k B:Nat) (s:CS) (ms:List Nat) (w:World) (hs:(Tree.mk n ks).size≤N+1) (hT:S.R.drop i=(Tree.mk n ks).row++rest) (hA:alls Shp ks) (hcapS:S.R.length≤S.c∧S.c≤maxLen) (hb:Bd s B) (hB:B+(Tree.mk n ks).size≤1099511627776) (hsc:s.scopes.length≤d) (hlp:s.loops.length≤d) (hd:d≤257) (hkk:k≤1099511627776) (hreg:n.kind=3→ks≠[]) (hkeyok:∀m∈(Tree.mk n ks).row,KeyOk m) (hK:CK S s ms w)
  (t2:(n.kind==2)=false) (t3:(n.kind==3)=true) (t4:(n.kind==4)=false) (t5:(n.kind==5)=false) (t6:(n.kind==6)=false) (t10:(n.kind==10)=false) (t11:(n.kind==11)=false) (t12:(n.kind==12)=false) (t25:(n.kind==25)=false) (t7:(n.kind==7)=false) (t23:(n.kind==23)=false) (t13:(n.kind==13)=false) (t14:(n.kind==14)=false) :
  Calls Tryz.prog 29 #[.pointer (some ⟨S.bp,0,none⟩),.int .i64 (i:Int),.int .i64 (d:Int),.int .i64 (k:Int)] w (COut S ms w (chk S.E (Tree.mk n ks) d k s)):=by
 obtain⟨r,hr⟩:∃r,Hid (chk S.E (Tree.mk n ks) d k s=r):=⟨_,rfl⟩
 rw[hr.out]
 have HM:Hid ((need (decide (256<d)) 71 n.at' >>= fun _=>(need ((arity n.text).isSome||s.ahead.contains n.text) 80 n.at' >>= fun _=>(chks S.E ks (d+1) 0 ⟨[]::s.scopes,[],n.text::s.ahead⟩ >>= fun s'=>need (decide (64<constants (.mk n ks))) 84 n.at' >>= fun _=>need (!S.E.free&&decide (64<registers (.mk n ks))) 83 n.at' >>= fun _=>pure { s' with scopes:=s'.scopes.tail })))=r):=by
  have h1:=hr.out
  unfold chk at h1
  simp only[t2,t3,t4,t5,t6,t10,t11,t12,t25,t7,t23,t13,t14,Bool.or_false,Bool.false_or,Bool.or_true,Bool.true_or,Bool.or_self,Bool.false_eq_true,if_true,if_false,reduceIte]at h1
  exact h1
 clear hr
 obtain⟨hrow,hnode⟩:=row_tail hT
 have hszT:(Tree.mk n ks).size=sizes ks+1:=by simp[Tree.size]
 have hkl:ks.length≤sizes ks:=by rw[←rows_sizes];exact rowsGe ks
 have hil:(i:Int)<S.R.length:=by have:=(List.getElem?_eq_some_iff.1 hnode).1;omega
 have hx:n.text.length≤140737488351232:=(hK.ok _ (List.mem_of_getElem? hnode)).text
 obtain⟨sv,lv,hb0,_,_⟩:=hK.ex
 obtain⟨rc,rz,rset,rb⟩:=hb0.rules
 have hlim:=hK.lim;have hgl0:=hK.rat.gl
 obtain⟨rc0,hgl,rbk,n0,n1,n2,n3,n4,n5⟩:=nrd hK hnode
 obtain⟨W5,hW5⟩:∃X,X=nw S n i d ks w:=⟨_,rfl⟩
 obtain⟨hF5,k4,k5,k6,k8,k9,k10⟩:=hW5 ▸ npre S n i d ks w
 unfold nw at hW5
 have hK5:=hK.fr hF5
 obtain⟨sv5,lv5,hb5,_,_⟩:=hK5.ex
 have hk:=kids_any S.bp S.R rest i S.g S.c n ks hT hlim W5 hK5.rat _ hb5 rfl
 have hcw:=nfault_any (S:=S) (ms:=ms) (w:=w) (decide (256<(d:Int))) 71 (ks.length:Int) (w.heap.size+1+1+1) n k8 hK5.low HM (by simp;omega)
 have HK5:=Lib.hid hK5;have HT:=Lib.hid hT;have HR:=Lib.hid hrow;have HN:=Lib.hid hnode;have HA:=Lib.hid hA;have HF5:=Lib.hid hF5;have HKx:=Lib.hid hK;have HB:=Lib.hid hb
 clear hK5 hT hrow hnode hA hF5 hK hb hb5 HM hb0
 have hdi:(d:Int)≤300:=by omega
 have hki:(k:Int)≤1099511627776:=by omega
 go_enter Tryz.func29,Tryz.ntmps29
 go_wp2_with (fail)
 go_region
 go_wp2_with (fail)
 rw[←hW5]
 clear hW5 rc rz rset rb rc0 hgl0 hgl rbk n0 n1 n2 n3 n4 n5
 go_at_call 50
 refine hcw.mono ?_
 clear hcw
 rintro e1 w1 (⟨ft,rfl,hout⟩|⟨rfl,rfl,hq1,HM⟩)
 ·exact⟨rfl,hout⟩
 have hd2:d≤256:=by simpa using hq1
 obtain⟨c4,z4,s4,l4⟩:=k4.rules
 obtain⟨c5,z5,s5,l5⟩:=k5.rules
 go_wp2_with (fail)
 go_at_call 31
 refine hk.mono ?_
 clear hk c4 z4 s4 l4 c5 z5 s5 l5
 rintro e2 w2 ⟨v,rfl,hown,hf2⟩
 obtain⟨g',cur,sa,sc,rfl,hgb,hcur,hsa,hcap⟩:=kids_blk hown (k5.fr hf2 (by simp))
 obtain⟨W,hW⟩:∃X,X=w2.alloc (.cells #[.slice sa ks.length sc] 36):=⟨_,rfl⟩
 have hfW:Fr [] w2 W:=by rw[hW];exact(Fr.refl _ _).alloc _
 have hf5W:Fr [] W5 W:=hf2.trans hfW
 have nf:NF S n i d ks w.heap.size (w.heap.size+1) (w.heap.size+1+1) (w.heap.size+1+1+1) (w.heap.size+1+1+1+1) (w.heap.size+1+1+1+1+1) w2.heap.size g' sc sa cur W :=
  ⟨k4.fr hf5W (by simp),k5.fr hf5W (by simp),k6.fr hf5W (by simp),k8.fr hf5W (by simp),k9.fr hf5W (by simp),k10.fr hf5W (by simp),by rw[hW];exact Blk.new _ _ _,hgb.fr hfW (by simp),fun j q hj=>hcur j _ (by simp[ivals,hj]),fun hne=>hsa (List.length_pos_iff.2 hne),hcap⟩
 have hKW:=HK5.out.fr hf5W
 have hcW:Ct w W:=Ct.of_fr (HF5.out.trans hf5W)
 clear hfW hf5W hgb hcur hsa hown hf2 k4 k5 k6 k8 k9 k10 HK5 HF5
 go_upto_region 7 with(fail)
 rw[←hW]
 clear hW
 generalize w2.heap.size=b12 at *
 obtain⟨c8,z8,s8,l8⟩:=nf.h8.rules
 have har:=arity_any n.text (by simp[maxLen];omega) W
 go_wp2_with (fail)
 go_at_call 54
 refine har.mono ?_
 rintro e3 w3 ⟨rfl,hf3⟩
 replace nf:=nf.ct (Ct.of_fr hf3)
 replace hKW:=hKW.fr hf3
 replace hcW:=hcW.trans (Ct.of_fr hf3)
 clear har hf3 c8 z8 s8 l8
 obtain⟨sv,lv,hbk,hsr,hlr⟩:=hKW.ex
 obtain⟨av,hav⟩:∃av:Int,(Ck.arity n.text).getD 0=av:=⟨_,rfl⟩
 rw[hav]
 clear hav
 have hahd:=hKW.ahd
 cases hal:(Ck.arity n.text).isSome with
 | true =>
  have hflt:=nfault_any (S:=S) (ms:=ms) (w:=w) (true) 80 (ks.length:Int) (w.heap.size+1+1+1) n (nf.h8.fr (Fr.refl [] _).drew (by simp)) (hKW.fr (Fr.refl [] _).drew).low HM (by rw[hal];rfl)
  have HAL:=Lib.hid hal
  clear hal
  go_wp2_with (fail)
  have hS:(fun X:World=>SR S w.heap.size (w.heap.size+1+1+1) (w.heap.size+1+1+1+1) n.text X∧X.cell? ⟨S.bp,4,none⟩=some (.map (some S.ma))) w3.drew:=⟨nf.sr.drew,hbk.rules.1 4⟩
  refine wp_region_held (S:=fun X:World=>SR S w.heap.size (w.heap.size+1+1+1) (w.heap.size+1+1+1+1) n.text X∧X.cell? ⟨S.bp,4,none⟩=some (.map (some S.ma))) (by kernel_rfl) ?_
  refine tk 0 (.func (.func 50) #[] #[.pointer (some ⟨w.heap.size+1+1+1,0,none⟩)]) rfl hS (fun X hX=>?_) ?_
  ·obtain⟨⟨hX1,hX2,hX3⟩,hX4⟩:=hX;go_simp
  simp only[Act.put,acts]
  refine tk 1 (.bool true) rfl hS (fun X hX=>?_) ?_
  ·go_simp
  simp only[Act.put,acts]
  refine tk 2 (.bool true) rfl hS (fun X hX=>?_) ?_
  ·go_simp
  simp only[Act.put,acts]
  refine tks 3 rfl hS ?_
  simp only[Act.put,acts]
  refine tks 4 rfl hS ?_
  simp only[Act.put,acts]
  refine tks 5 rfl hS ?_
  simp only[Act.put,acts]
  refine tks 6 rfl hS ?_
  simp only[Act.put,acts]
  refine tks 7 rfl hS ?_
  simp only[Act.put,acts]
  refine tks 8 rfl hS ?_
  simp only[Act.put,acts]
  refine tks 9 rfl hS ?_
  simp only[Act.put,acts]
  refine tk 10 (.bool true) rfl hS (fun X hX=>?_) ?_
  ·go_simp
  simp only[Act.put,acts]
  refine wpAnyH_all (rs:=[11]) (by kernel_rfl) (by simp) ?_
  intro i2 hi2
  obtain rfl:i2=11:=by simpa using hi2
  refine wpOp_step rfl (fun K0 hK0=>?_)
  rw[if_pos (by kernel_rfl)]
  go_simp
  refine hflt.mono ?_
  rintro e4 w4 (⟨ft,rfl,hout⟩|⟨_,_,hq2,_⟩)
  ·exact⟨rfl,hout⟩
  ·rw[HAL.out]at hq2;cases hq2
 | false =>
  obtain⟨tb,htb⟩:∃tb:Bool,s.ahead.contains n.text=tb:=⟨_,rfl⟩
  have hhas:=has_any S.ma s.ahead n.text (by simp[maxLen];omega) w3.drew (hahd.fr (Fr.refl [] _).drew)
  rw[htb]at hhas
  have HTB:=Lib.hid (And.intro hal htb)
  clear hal htb
  go_wp2_with (fail)
  have hS:(fun X:World=>SR S w.heap.size (w.heap.size+1+1+1) (w.heap.size+1+1+1+1) n.text X∧X.cell? ⟨S.bp,4,none⟩=some (.map (some S.ma))) w3.drew:=⟨nf.sr.drew,hbk.rules.1 4⟩
  refine wp_region_held (S:=fun X:World=>SR S w.heap.size (w.heap.size+1+1+1) (w.heap.size+1+1+1+1) n.text X∧X.cell? ⟨S.bp,4,none⟩=some (.map (some S.ma))) (by kernel_rfl) ?_
  refine tk 0 (.func (.func 50) #[] #[.pointer (some ⟨w.heap.size+1+1+1,0,none⟩)]) rfl hS (fun X hX=>?_) ?_
  ·obtain⟨⟨hX1,hX2,hX3⟩,hX4⟩:=hX;go_simp
  simp only[Act.put,acts]
  refine tk 1 (.bool false) rfl hS (fun X hX=>?_) ?_
  ·go_simp
  simp only[Act.put,acts]
  refine tk 2 (.bool false) rfl hS (fun X hX=>?_) ?_
  ·go_simp
  simp only[Act.put,acts]
  refine tk 3 (.pointer (some ⟨S.bp,0,none⟩)) rfl hS (fun X hX=>?_) ?_
  ·obtain⟨⟨hX1,hX2,hX3⟩,hX4⟩:=hX;go_simp
  simp only[Act.put,acts]
  refine tk 4 (.pointer (some ⟨S.bp,0,none⟩)) rfl hS (fun X hX=>?_) ?_
  ·go_simp
  simp only[Act.put,acts]
  refine tk 5 (.pointer (some ⟨S.bp,4,none⟩)) rfl hS (fun X hX=>?_) ?_
  ·go_simp
  simp only[Act.put,acts]
  refine tk 6 (.map (some S.ma)) rfl hS (fun X hX=>?_) ?_
  ·obtain⟨⟨hX1,hX2,hX3⟩,hX4⟩:=hX;go_simp
  simp only[Act.put,acts]
  refine tk 7 (.pointer (some ⟨w.heap.size+1+1+1,3,none⟩)) rfl hS (fun X hX=>?_) ?_
  ·go_simp
  simp only[Act.put,acts]
  refine tk 8 (.string ⟨n.text.toArray⟩) rfl hS (fun X hX=>?_) ?_
  ·obtain⟨⟨hX1,hX2,hX3⟩,hX4⟩:=hX;go_simp
  simp only[Act.put,acts]
  refine wpAnyH_all (rs:=[9]) (by kernel_rfl) (by simp) ?_
  intro i2 hi2
  obtain rfl:i2=9:=by simpa using hi2
  refine wpOp_step rfl (fun K0 hK0=>?_)
  rw[if_pos (by kernel_rfl)]
  go_simp
  refine hhas.mono ?_
  rintro e5 w5 ⟨rfl,hf5⟩
  have hfW5:Fr [] w3 w5:=((Fr.refl [] _).drew).trans hf5
  have hS5:(fun X:World=>SR S w.heap.size (w.heap.size+1+1+1) (w.heap.size+1+1+1+1) n.text X∧X.cell? ⟨S.bp,4,none⟩=some (.map (some S.ma))) w5:=⟨hS.1.fr hf5,hf5.cell hS.2 (by simp)⟩
  clear hS
  have hS:=hS5
  refine hK0 _ _ ⟨hS,?_⟩
  refine tk 10 (.bool tb) rfl hS (fun X hX=>?_) ?_
  ·go_simp
  simp only[Act.put,acts]
  have hflt:=nfault_any (S:=S) (ms:=ms) (w:=w) (tb) 80 (ks.length:Int) (w.heap.size+1+1+1) n (nf.h8.fr hfW5 (by simp)) (hKW.fr hfW5).low HM (by rw[HTB.out.1,HTB.out.2];rfl)
  refine wpAnyH_all (rs:=[11]) (by kernel_rfl) (by simp) ?_
  intro i2 hi2
  obtain rfl:i2=11:=by simpa using hi2
  refine wpOp_step rfl (fun K0 hK0=>?_)
  rw[if_pos (by kernel_rfl)]
  go_simp
  refine hflt.mono ?_
  rintro e4 V (⟨ft,rfl,hout⟩|⟨rfl,hVe,hq2,HM⟩)
  ·exact⟨rfl,hout⟩
  have hfV:Fr [] w3 V:=by rw[←hVe];exact hfW5
  replace nf:=nf.ct (Ct.of_fr hfV)
  replace hKW:=hKW.fr hfV
  replace hcW:=hcW.trans (Ct.of_fr hfV)
  refine hK0 _ _ ⟨by rw[←hVe];exact hS,wpAnyH_done (by kernel_rfl) ?_ _⟩
  clear hVe hfV
  clear hflt hS hS5 hhas hf5 hfW5 hsr hlr hbk hahd HTB
  obtain⟨sv,lv,hbk,hsr,hlr⟩:=hKW.ex
  go_wp2_with (fail)
  have hS:(fun X:World=>SR S w.heap.size (w.heap.size+1+1+1) (w.heap.size+1+1+1+1) n.text X∧X.cell? ⟨S.bp,4,none⟩=some (.map (some S.ma))) V.drew:=⟨nf.sr.drew,hbk.rules.1 4⟩
  refine wp_region_held (S:=fun X:World=>SR S w.heap.size (w.heap.size+1+1+1) (w.heap.size+1+1+1+1) n.text X∧X.cell? ⟨S.bp,4,none⟩=some (.map (some S.ma))) (by kernel_rfl) ?_
  refine tk 0 (.pointer (some ⟨S.bp,0,none⟩)) rfl hS (fun X hX=>?_) ?_
  ·obtain⟨⟨hX1,hX2,hX3⟩,hX4⟩:=hX;go_simp
  simp only[Act.put,acts]
  refine tk 1 (.pointer (some ⟨S.bp,0,none⟩)) rfl hS (fun X hX=>?_) ?_
  ·go_simp
  simp only[Act.put,acts]
  refine tk 2 (.pointer (some ⟨S.bp,4,none⟩)) rfl hS (fun X hX=>?_) ?_
  ·go_simp
  simp only[Act.put,acts]
  refine tk 3 (.map (some S.ma)) rfl hS (fun X hX=>?_) ?_
  ·obtain⟨⟨hX1,hX2,hX3⟩,hX4⟩:=hX;go_simp
  simp only[Act.put,acts]
  refine tk 4 (.pointer (some ⟨w.heap.size+1+1+1,3,none⟩)) rfl hS (fun X hX=>?_) ?_
  ·go_simp
  simp only[Act.put,acts]
  refine tk 5 (.string ⟨n.text.toArray⟩) rfl hS (fun X hX=>?_) ?_
  ·obtain⟨⟨hX1,hX2,hX3⟩,hX4⟩:=hX;go_simp
  simp only[Act.put,acts]
  refine tk 6 (.agg #[]) rfl hS (fun X hX=>?_) ?_
  ·go_simp
  simp only[Act.put,acts]
  obtain⟨nn,D,hown,hnn,hhas⟩:=hKW.ahd.fr (Fr.refl [] V).drew
  have hnl:nn<maxLen:=by have:=HB.out.ah;simp[maxLen];omega
  refine wpAnyH_all (rs:=[7]) (by kernel_rfl) (by simp) ?_
  intro i2 hi2
  obtain rfl:i2=7:=by simpa using hi2
  refine wpOp_step rfl (fun K0 hK0=>?_)
  rw[if_pos (by kernel_rfl)]
  refine wp_mapUpdate_step V.drew (.tmp 62) (.tmp 64) (.tmp 65) 64 rfl 9 70 strKey Tryz.underlying64 unitElem S.ma nn D rfl hown hnl (.string ⟨n.text.toArray⟩) (.agg #[]) _ rfl rfl (strKl (by simp[maxLen];omega)) (.agg []) [] unitElem_mk ?_
  intro w7 hown7 hg7
  obtain⟨hK7,hC7⟩:=(hKW.fr (Fr.refl [] V).drew).putAhead (x:=n.text) (by simp[maxLen];omega) hnn hown.isMap hhas hown7 hg7
  have hC8:Ct V w7:=(Ct.of_fr (Fr.refl [] V).drew).trans hC7
  replace nf:=nf.ct hC8
  replace hcW:=hcW.trans hC8
  obtain⟨sv2,lv2,hbk2,hsr2,hlr2⟩:=hK7.ex
  refine hK0 _ _ ⟨⟨nf.sr,hbk2.rules.1 4⟩,wpAnyH_done (by kernel_rfl) ?_ _⟩
  clear hK0 hS hC7 hC8 hKW hbk hsr hlr hown hhas hown7 hg7 hnn hnl
  obtain⟨c4,z4,s4,l4⟩:=nf.h4.rules
  obtain⟨cb,zb,sb,lb⟩:=hbk2.rules
  obtain⟨hK8,hC8⟩:=hK7.noLoops hbk2 hsr2
  obtain⟨w8,hw8⟩:∃X,X=Ck.blk w7 S.bp #[.slice (some ⟨S.g,0,none⟩) S.R.length S.c,.bool S.E.free,.map (some S.mg),.map (some S.mp),.map (some S.ma),sv2,.slice none 0 0] 69:=⟨_,rfl⟩
  go_upto_region 14 with(fail)
  rw[←hw8]
  rw[←hw8]at hK8 hC8
  clear hw8 c4 z4 s4 l4 cb zb sb lb
  replace nf:=nf.ct hC8
  replace hcW:=hcW.trans hC8
  obtain⟨c4,z4,s4,l4⟩:=nf.h4.rules
  have hfm:Fr [] w8 (w8.alloc (.map #[] 0)):=(Fr.refl _ _).alloc _
  have hKm:=hK8.fr hfm
  have hset:SetAt (w8.alloc (.map #[] 0)) w8.heap.size []:=⟨0,_,World.ownsMap_made w8 _ _ _,by simp,fun x=>by simp[Maps.has]⟩
  have hin:=inner4_any #[.pointer (some ⟨w.heap.size+1+1+1+1+1,0,none⟩),.pointer (some ⟨b12,0,none⟩)] w8.heap.size [] (chks S.E ks (d+1) 0 ⟨[]::s.scopes,[],n.text::s.ahead⟩) hKm hset (fresh_map hK8) hK8.bw (by show s.scopes.length≤1000;omega) (fun w1 k1 q1=>body4_any S (w8.heap.size::ms) _ _ _ _ _ _ w1 (nf.ct ((Ct.of_fr hfm).trans q1)).h10 (nf.ct ((Ct.of_fr hfm).trans q1)).h12 (NF.each ih (nf.ct ((Ct.of_fr hfm).trans q1)) rest (B+1) _ (w8.heap.size::ms) (by omega) HR.out HA.out (by simp) ⟨fun l hl=>by
    rcases List.mem_cons.1 hl with rfl|hl
    ·simp
    ·exact Nat.le_succ_of_le (HB.out.sc l hl),by have:=HB.out.ah;simp;omega⟩ (by simp;omega) (by simp) (by omega) k1 (by omega)))
  have hmm:=@run_makeMap Tryz.prog
  go_wp2_with (fail)
  go_at_call 56
  refine hin.mono ?_
  clear hin hmm c4 z4 s4 l4
  rintro e5 w5 ho
  have nf5:e5=.returned (.tuple #[])→NF S n i d ks w.heap.size (w.heap.size+1) (w.heap.size+1+1) (w.heap.size+1+1+1) (w.heap.size+1+1+1+1) (w.heap.size+1+1+1+1+1) b12 g' sc sa cur w5:=fun he=>by
   rcases ho with⟨ft,_,rfl,_⟩|⟨s2,_,_,_,C2⟩
   ·simp[panC]at he
   ·exact nf.ct ((Ct.of_fr hfm).trans C2)
  have hHM2:=(popB (chks S.E ks (d+1) 0 ⟨[]::s.scopes,[],n.text::s.ahead⟩) (fun s2=>need (decide (64<constants (.mk n ks))) 84 n.at' >>= fun _=>need (!S.E.free&&decide (64<registers (.mk n ks))) 83 n.at' >>= fun _=>pure s2)).symm.trans HM.out
  clear HM
  have HM:=Lib.hid hHM2
  clear hHM2
  rcases ho.bindr HM (hcW.trans (Ct.of_fr hfm)) with⟨ft,rfl,hout⟩|⟨s2,rfl,hK2,hC2,hok2,HM2⟩
  ·exact⟨rfl,hout⟩
  have nf6:=nf5 rfl
  clear nf nf5 hKm hset hK8 ho HM
  have nf:=nf6
  have HM:=HM2
  replace hcW:=(hcW.trans (Ct.of_fr hfm)).trans hC2
  clear nf6 HM2 hC2 hfm
  have hKW:=hK2
  clear hK2
  obtain⟨sv,lv,hbk,hsr,hlr⟩:=hKW.ex
  obtain⟨c8,z8,s8,l8⟩:=nf.h8.rules
  have hco:=cconstants_any S hlim hcapS (Tree.mk n ks) rest i w5.drew HT.out (hKW.hw.fr (Fr.refl [] _).drew List.not_mem_nil List.not_mem_nil) hkeyok
  go_wp2_with (fail)
  have hS:(fun X:World=>SR S w.heap.size (w.heap.size+1+1+1) (w.heap.size+1+1+1+1) n.text X∧X.cell? ⟨w.heap.size+1,0,none⟩=some (.int .i64 (i:Int))∧X.cell? ⟨S.bp,1,none⟩=some (.bool S.E.free)) w5.drew:=⟨nf.sr.drew,nf.h5.rules.1 0,hbk.rules.1 1⟩
  refine wp_region_held (S:=fun X:World=>SR S w.heap.size (w.heap.size+1+1+1) (w.heap.size+1+1+1+1) n.text X∧X.cell? ⟨w.heap.size+1,0,none⟩=some (.int .i64 (i:Int))∧X.cell? ⟨S.bp,1,none⟩=some (.bool S.E.free)) (by kernel_rfl) ?_
  refine tk 0 (.func (.func 50) #[] #[.pointer (some ⟨w.heap.size+1+1+1,0,none⟩)]) rfl hS (fun X hX=>?_) ?_
  ·obtain⟨⟨hX1,hX2,hX3⟩,hX4,hX5⟩:=hX;go_simp
  simp only[Act.put,acts]
  refine tk 1 (.pointer (some ⟨S.bp,0,none⟩)) rfl hS (fun X hX=>?_) ?_
  ·obtain⟨⟨hX1,hX2,hX3⟩,hX4,hX5⟩:=hX;go_simp
  simp only[Act.put,acts]
  refine tk 2 (.int .i64 (i:Int)) rfl hS (fun X hX=>?_) ?_
  ·obtain⟨⟨hX1,hX2,hX3⟩,hX4,hX5⟩:=hX;go_simp
  simp only[Act.put,acts]
  refine wpAnyH_all (rs:=[3]) (by kernel_rfl) (by simp) ?_
  intro i2 hi2
  obtain rfl:i2=3:=by simpa using hi2
  refine wpOp_step rfl (fun K0 hK0=>?_)
  rw[if_pos (by kernel_rfl)]
  go_simp
  refine hco.mono ?_
  rintro e6 w6 ⟨rfl,hf6⟩
  have hfW6:Fr [] w5 w6:=((Fr.refl [] _).drew).trans hf6
  have hSn:(fun X:World=>SR S w.heap.size (w.heap.size+1+1+1) (w.heap.size+1+1+1+1) n.text X∧X.cell? ⟨w.heap.size+1,0,none⟩=some (.int .i64 (i:Int))∧X.cell? ⟨S.bp,1,none⟩=some (.bool S.E.free)) w6:=⟨hS.1.fr hf6,hf6.cell hS.2.1 (by simp),hf6.cell hS.2.2 (by simp)⟩
  clear hS
  have hS:=hSn
  clear hSn
  refine hK0 _ _ ⟨hS,?_⟩
  obtain⟨cn,hcn⟩:∃cn,constants (Tree.mk n ks)=cn:=⟨_,rfl⟩
  rw[hcn]at HM ⊢
  clear hcn
  refine tk 4 (.bool (decide (64<(cn:Int)))) rfl hS (fun X hX=>?_) ?_
  ·go_simp
  simp only[Act.put,acts]
  have hflt:=nfault_any (S:=S) (ms:=ms) (w:=w) (decide (64<(cn:Int))) 84 (ks.length:Int) (w.heap.size+1+1+1) n (nf.h8.fr hfW6 (by simp)) (hKW.fr hfW6).low HM (by simp;try omega)
  refine wpAnyH_all (rs:=[5]) (by kernel_rfl) (by simp) ?_
  intro i2 hi2
  obtain rfl:i2=5:=by simpa using hi2
  refine wpOp_step rfl (fun K0 hK0=>?_)
  rw[if_pos (by kernel_rfl)]
  go_simp
  refine hflt.mono ?_
  rintro e4 V (⟨ft,rfl,hout⟩|⟨rfl,hVe,hq2,HM⟩)
  ·exact⟨rfl,hout⟩
  have hfV:Fr [] w5 V:=by rw[←hVe];exact hfW6
  replace nf:=nf.ct (Ct.of_fr hfV)
  replace hKW:=hKW.fr hfV
  replace hcW:=hcW.trans (Ct.of_fr hfV)
  refine hK0 _ _ ⟨by rw[←hVe];exact hS,wpAnyH_done (by kernel_rfl) ?_ _⟩
  clear hVe hfV
  clear hflt hS hfW6 hf6 hbk hsr hlr c8 z8 s8 l8 hco
  obtain⟨sv,lv,hbk,hsr,hlr⟩:=hKW.ex
  have hk33:n.kind=3:=by simpa using t3
  have hth:Three n ks:=⟨fun h=>(by rw[h]at t11;cases t11),by omega⟩
  have hre:=registers_any S hlim n ks rest i V.drew HT.out ⟨hth,all_imps (fun _ _ h=>h.2.1) ks HA.out⟩ (hreg hk33) (by omega) (hKW.hw.fr (Fr.refl [] _).drew List.not_mem_nil List.not_mem_nil)
  clear hk33
  cases hfree:S.E.free with
  | true =>
   rw[hfree]at hbk HM
   have hS:(fun X:World=>SR S w.heap.size (w.heap.size+1+1+1) (w.heap.size+1+1+1+1) n.text X∧X.cell? ⟨w.heap.size+1,0,none⟩=some (.int .i64 (i:Int))∧X.cell? ⟨S.bp,1,none⟩=some (.bool true)) V.drew:=⟨nf.sr.drew,nf.h5.rules.1 0,hbk.rules.1 1⟩
   go_wp2_with (fail)
   refine wp_region_held (S:=fun X:World=>SR S w.heap.size (w.heap.size+1+1+1) (w.heap.size+1+1+1+1) n.text X∧X.cell? ⟨w.heap.size+1,0,none⟩=some (.int .i64 (i:Int))∧X.cell? ⟨S.bp,1,none⟩=some (.bool true)) (by kernel_rfl) ?_
   refine tk 0 (.func (.func 50) #[] #[.pointer (some ⟨w.heap.size+1+1+1,0,none⟩)]) rfl hS (fun X hX=>?_) ?_
   ·obtain⟨⟨hX1,hX2,hX3⟩,hX4,hX5⟩:=hX;go_simp
   simp only[Act.put,acts]
   refine tk 1 (.pointer (some ⟨S.bp,0,none⟩)) rfl hS (fun X hX=>?_) ?_
   ·obtain⟨⟨hX1,hX2,hX3⟩,hX4,hX5⟩:=hX;go_simp
   simp only[Act.put,acts]
   refine tk 2 (.pointer (some ⟨S.bp,0,none⟩)) rfl hS (fun X hX=>?_) ?_
   ·go_simp
   simp only[Act.put,acts]
   refine tk 3 (.pointer (some ⟨S.bp,1,none⟩)) rfl hS (fun X hX=>?_) ?_
   ·go_simp
   simp only[Act.put,acts]
   refine tk 4 (.bool true) rfl hS (fun X hX=>?_) ?_
   ·obtain⟨⟨hX1,hX2,hX3⟩,hX4,hX5⟩:=hX;go_simp
   simp only[Act.put,acts]
   refine tk 5 (.bool false) rfl hS (fun X hX=>?_) ?_
   ·go_simp
   simp only[Act.put,acts]
   refine tk 6 (.bool false) rfl hS (fun X hX=>?_) ?_
   ·go_simp
   simp only[Act.put,acts]
   refine tks 7 rfl hS ?_
   simp only[Act.put,acts]
   refine tks 8 rfl hS ?_
   simp only[Act.put,acts]
   refine tks 9 rfl hS ?_
   simp only[Act.put,acts]
   refine tks 10 rfl hS ?_
   simp only[Act.put,acts]
   refine tk 11 (.bool false) rfl hS (fun X hX=>?_) ?_
   ·go_simp
   simp only[Act.put,acts]
   have hflt:=nfault_any (S:=S) (ms:=ms) (w:=w) (false) 83 (ks.length:Int) (w.heap.size+1+1+1) n (nf.h8.fr (Fr.refl [] _).drew (by simp)) (hKW.fr (Fr.refl [] _).drew).low HM (rfl)
   refine wpAnyH_all (rs:=[12]) (by kernel_rfl) (by simp) ?_
   intro i2 hi2
   obtain rfl:i2=12:=by simpa using hi2
   refine wpOp_step rfl (fun K0 hK0=>?_)
   rw[if_pos (by kernel_rfl)]
   go_simp
   refine hflt.mono ?_
   rintro e4 V2 (⟨ft,rfl,hout⟩|⟨rfl,hVe,hq2,HM⟩)
   ·exact⟨rfl,hout⟩
   have hfV:Fr [] V V2:=by rw[←hVe];exact(Fr.refl [] _).drew
   replace nf:=nf.ct (Ct.of_fr hfV)
   replace hKW:=hKW.fr hfV
   replace hcW:=hcW.trans (Ct.of_fr hfV)
   refine hK0 _ _ ⟨by rw[←hVe];exact hS,wpAnyH_done (by kernel_rfl) ?_ _⟩
   clear hVe hfV
   go_wp2
   go_end0
   exact .inr ⟨s2,HM.out.symm,rfl,hKW,hcW⟩
  | false =>
   rw[hfree]at hbk HM
   have hS:(fun X:World=>SR S w.heap.size (w.heap.size+1+1+1) (w.heap.size+1+1+1+1) n.text X∧X.cell? ⟨w.heap.size+1,0,none⟩=some (.int .i64 (i:Int))∧X.cell? ⟨S.bp,1,none⟩=some (.bool false)) V.drew:=⟨nf.sr.drew,nf.h5.rules.1 0,hbk.rules.1 1⟩
   go_wp2_with (fail)
   refine wp_region_held (S:=fun X:World=>SR S w.heap.size (w.heap.size+1+1+1) (w.heap.size+1+1+1+1) n.text X∧X.cell? ⟨w.heap.size+1,0,none⟩=some (.int .i64 (i:Int))∧X.cell? ⟨S.bp,1,none⟩=some (.bool false)) (by kernel_rfl) ?_
   refine tk 0 (.func (.func 50) #[] #[.pointer (some ⟨w.heap.size+1+1+1,0,none⟩)]) rfl hS (fun X hX=>?_) ?_
   ·obtain⟨⟨hX1,hX2,hX3⟩,hX4,hX5⟩:=hX;go_simp
   simp only[Act.put,acts]
   refine tk 1 (.pointer (some ⟨S.bp,0,none⟩)) rfl hS (fun X hX=>?_) ?_
   ·obtain⟨⟨hX1,hX2,hX3⟩,hX4,hX5⟩:=hX;go_simp
   simp only[Act.put,acts]
   refine tk 2 (.pointer (some ⟨S.bp,0,none⟩)) rfl hS (fun X hX=>?_) ?_
   ·go_simp
   simp only[Act.put,acts]
   refine tk 3 (.pointer (some ⟨S.bp,1,none⟩)) rfl hS (fun X hX=>?_) ?_
   ·go_simp
   simp only[Act.put,acts]
   refine tk 4 (.bool false) rfl hS (fun X hX=>?_) ?_
   ·obtain⟨⟨hX1,hX2,hX3⟩,hX4,hX5⟩:=hX;go_simp
   simp only[Act.put,acts]
   refine tk 5 (.bool true) rfl hS (fun X hX=>?_) ?_
   ·go_simp
   simp only[Act.put,acts]
   refine tk 6 (.bool true) rfl hS (fun X hX=>?_) ?_
   ·go_simp
   simp only[Act.put,acts]
   refine tk 7 (.pointer (some ⟨S.bp,0,none⟩)) rfl hS (fun X hX=>?_) ?_
   ·obtain⟨⟨hX1,hX2,hX3⟩,hX4,hX5⟩:=hX;go_simp
   simp only[Act.put,acts]
   refine tk 8 (.int .i64 (i:Int)) rfl hS (fun X hX=>?_) ?_
   ·obtain⟨⟨hX1,hX2,hX3⟩,hX4,hX5⟩:=hX;go_simp
   simp only[Act.put,acts]
   refine wpAnyH_all (rs:=[9]) (by kernel_rfl) (by simp) ?_
   intro i2 hi2
   obtain rfl:i2=9:=by simpa using hi2
   refine wpOp_step rfl (fun K0 hK0=>?_)
   rw[if_pos (by kernel_rfl)]
   go_simp
   refine hre.mono ?_
   rintro e7 w7 ⟨rfl,hf7⟩
   have hfW7:Fr [] V w7:=((Fr.refl [] _).drew).trans hf7
   have hSn:(fun X:World=>SR S w.heap.size (w.heap.size+1+1+1) (w.heap.size+1+1+1+1) n.text X∧X.cell? ⟨w.heap.size+1,0,none⟩=some (.int .i64 (i:Int))∧X.cell? ⟨S.bp,1,none⟩=some (.bool false)) w7:=⟨hS.1.fr hf7,hf7.cell hS.2.1 (by simp),hf7.cell hS.2.2 (by simp)⟩
   clear hS
   have hS:=hSn
   clear hSn
   refine hK0 _ _ ⟨hS,?_⟩
   obtain⟨rg,hrg⟩:∃rg,registers (Tree.mk n ks)=rg:=⟨_,rfl⟩
   rw[hrg]at HM ⊢
   clear hrg
   refine tk 10 (.bool (decide (64<(rg:Int)))) rfl hS (fun X hX=>?_) ?_
   ·go_simp
   simp only[Act.put,acts]
   refine tk 11 (.bool (decide (64<(rg:Int)))) rfl hS (fun X hX=>?_) ?_
   ·go_simp
   simp only[Act.put,acts]
   have hflt:=nfault_any (S:=S) (ms:=ms) (w:=w) (decide (64<(rg:Int))) 83 (ks.length:Int) (w.heap.size+1+1+1) n (nf.h8.fr hfW7 (by simp)) (hKW.fr hfW7).low HM (by simp;try omega)
   refine wpAnyH_all (rs:=[12]) (by kernel_rfl) (by simp) ?_
   intro i2 hi2
   obtain rfl:i2=12:=by simpa using hi2
   refine wpOp_step rfl (fun K0 hK0=>?_)
   rw[if_pos (by kernel_rfl)]
   go_simp
   refine hflt.mono ?_
   rintro e4 V2 (⟨ft,rfl,hout⟩|⟨rfl,hVe,hq2,HM⟩)
   ·exact⟨rfl,hout⟩
   have hfV:Fr [] V V2:=by rw[←hVe];exact hfW7
   replace nf:=nf.ct (Ct.of_fr hfV)
   replace hKW:=hKW.fr hfV
   replace hcW:=hcW.trans (Ct.of_fr hfV)
   refine hK0 _ _ ⟨by rw[←hVe];exact hS,wpAnyH_done (by kernel_rfl) ?_ _⟩
   clear hVe hfV
   go_wp2
   go_end0
   exact .inr ⟨s2,HM.out.symm,rfl,hKW,hcW⟩
theorem nodeF2_any {S:CSt} {N:Nat} (ih:NAny S N) (n:Ck.Node) (ks:List Tree) (rest:List Ck.Node) (i d k B:Nat) (s:CS) (ms:List Nat) (w:World) (hs:(Tree.mk n ks).size≤N+1) (hT:S.R.drop i=(Tree.mk n ks).row++rest) (hA:alls Shp ks) (hcapS:S.R.length≤S.c∧S.c≤maxLen) (hb:Bd s B) (hB:B+(Tree.mk n ks).size≤1099511627776) (hsc:s.scopes.length≤d) (hlp:s.loops.length≤d) (hd:d≤257) (hkk:k≤1099511627776) (hreg:n.kind=3→ks≠[]) (hK:CK S s ms w)
  (t2:(n.kind==2)=true) (t3:(n.kind==3)=false) (t4:(n.kind==4)=false) (t5:(n.kind==5)=false) (t6:(n.kind==6)=false) (t10:(n.kind==10)=false) (t11:(n.kind==11)=false) (t12:(n.kind==12)=false) (t25:(n.kind==25)=false) (t7:(n.kind==7)=false) (t23:(n.kind==23)=false) (t13:(n.kind==13)=false) (t14:(n.kind==14)=false) :
  Calls Tryz.prog 29 #[.pointer (some ⟨S.bp,0,none⟩),.int .i64 (i:Int),.int .i64 (d:Int),.int .i64 (k:Int)] w (COut S ms w (chk S.E (Tree.mk n ks) d k s)):=by
 obtain⟨r,hr⟩:∃r,Hid (chk S.E (Tree.mk n ks) d k s=r):=⟨_,rfl⟩
 rw[hr.out]
 have HM:Hid ((need (decide (256<d)) 71 n.at' >>= fun _=>(need ((arity n.text).isSome||s.ahead.contains n.text) 80 n.at' >>= fun _=>(chks S.E ks (d+1) 0 ⟨[]::s.scopes,[],n.text::s.ahead⟩ >>= fun s'=>pure { s' with scopes:=s'.scopes.tail })))=r):=by
  have h1:=hr.out
  unfold chk at h1
  simp only[t2,t3,t4,t5,t6,t10,t11,t12,t25,t7,t23,t13,t14,Bool.or_false,Bool.false_or,Bool.or_true,Bool.true_or,Bool.or_self,Bool.false_eq_true,if_true,if_false,reduceIte]at h1
  exact h1
 clear hr
 obtain⟨hrow,hnode⟩:=row_tail hT
 have hszT:(Tree.mk n ks).size=sizes ks+1:=by simp[Tree.size]
 have hkl:ks.length≤sizes ks:=by rw[←rows_sizes];exact rowsGe ks
 have hil:(i:Int)<S.R.length:=by have:=(List.getElem?_eq_some_iff.1 hnode).1;omega
 have hx:n.text.length≤140737488351232:=(hK.ok _ (List.mem_of_getElem? hnode)).text
 obtain⟨sv,lv,hb0,_,_⟩:=hK.ex
 obtain⟨rc,rz,rset,rb⟩:=hb0.rules
 have hlim:=hK.lim;have hgl0:=hK.rat.gl
 obtain⟨rc0,hgl,rbk,n0,n1,n2,n3,n4,n5⟩:=nrd hK hnode
 obtain⟨W5,hW5⟩:∃X,X=nw S n i d ks w:=⟨_,rfl⟩
 obtain⟨hF5,k4,k5,k6,k8,k9,k10⟩:=hW5 ▸ npre S n i d ks w
 unfold nw at hW5
 have hK5:=hK.fr hF5
 obtain⟨sv5,lv5,hb5,_,_⟩:=hK5.ex
 have hk:=kids_any S.bp S.R rest i S.g S.c n ks hT hlim W5 hK5.rat _ hb5 rfl
 have hcw:=nfault_any (S:=S) (ms:=ms) (w:=w) (decide (256<(d:Int))) 71 (ks.length:Int) (w.heap.size+1+1+1) n k8 hK5.low HM (by simp;omega)
 have HK5:=Lib.hid hK5;have HT:=Lib.hid hT;have HR:=Lib.hid hrow;have HN:=Lib.hid hnode;have HA:=Lib.hid hA;have HF5:=Lib.hid hF5;have HKx:=Lib.hid hK;have HB:=Lib.hid hb
 clear hK5 hT hrow hnode hA hF5 hK hb hb5 HM hb0
 have hdi:(d:Int)≤300:=by omega
 have hki:(k:Int)≤1099511627776:=by omega
 go_enter Tryz.func29,Tryz.ntmps29
 go_wp2_with (fail)
 go_region
 go_wp2_with (fail)
 rw[←hW5]
 clear hW5 rc rz rset rb rc0 hgl0 hgl rbk n0 n1 n2 n3 n4 n5
 go_at_call 50
 refine hcw.mono ?_
 clear hcw
 rintro e1 w1 (⟨ft,rfl,hout⟩|⟨rfl,rfl,hq1,HM⟩)
 ·exact⟨rfl,hout⟩
 have hd2:d≤256:=by simpa using hq1
 obtain⟨c4,z4,s4,l4⟩:=k4.rules
 obtain⟨c5,z5,s5,l5⟩:=k5.rules
 go_wp2_with (fail)
 go_at_call 31
 refine hk.mono ?_
 clear hk c4 z4 s4 l4 c5 z5 s5 l5
 rintro e2 w2 ⟨v,rfl,hown,hf2⟩
 obtain⟨g',cur,sa,sc,rfl,hgb,hcur,hsa,hcap⟩:=kids_blk hown (k5.fr hf2 (by simp))
 obtain⟨W,hW⟩:∃X,X=w2.alloc (.cells #[.slice sa ks.length sc] 36):=⟨_,rfl⟩
 have hfW:Fr [] w2 W:=by rw[hW];exact(Fr.refl _ _).alloc _
 have hf5W:Fr [] W5 W:=hf2.trans hfW
 have nf:NF S n i d ks w.heap.size (w.heap.size+1) (w.heap.size+1+1) (w.heap.size+1+1+1) (w.heap.size+1+1+1+1) (w.heap.size+1+1+1+1+1) w2.heap.size g' sc sa cur W :=
  ⟨k4.fr hf5W (by simp),k5.fr hf5W (by simp),k6.fr hf5W (by simp),k8.fr hf5W (by simp),k9.fr hf5W (by simp),k10.fr hf5W (by simp),by rw[hW];exact Blk.new _ _ _,hgb.fr hfW (by simp),fun j q hj=>hcur j _ (by simp[ivals,hj]),fun hne=>hsa (List.length_pos_iff.2 hne),hcap⟩
 have hKW:=HK5.out.fr hf5W
 have hcW:Ct w W:=Ct.of_fr (HF5.out.trans hf5W)
 clear hfW hf5W hgb hcur hsa hown hf2 k4 k5 k6 k8 k9 k10 HK5 HF5
 go_upto_region 7 with(fail)
 rw[←hW]
 clear hW
 generalize w2.heap.size=b12 at *
 obtain⟨c8,z8,s8,l8⟩:=nf.h8.rules
 have har:=arity_any n.text (by simp[maxLen];omega) W
 go_wp2_with (fail)
 go_at_call 54
 refine har.mono ?_
 rintro e3 w3 ⟨rfl,hf3⟩
 replace nf:=nf.ct (Ct.of_fr hf3)
 replace hKW:=hKW.fr hf3
 replace hcW:=hcW.trans (Ct.of_fr hf3)
 clear har hf3 c8 z8 s8 l8
 obtain⟨sv,lv,hbk,hsr,hlr⟩:=hKW.ex
 obtain⟨av,hav⟩:∃av:Int,(Ck.arity n.text).getD 0=av:=⟨_,rfl⟩
 rw[hav]
 clear hav
 have hahd:=hKW.ahd
 cases hal:(Ck.arity n.text).isSome with
 | true =>
  have hflt:=nfault_any (S:=S) (ms:=ms) (w:=w) (true) 80 (ks.length:Int) (w.heap.size+1+1+1) n (nf.h8.fr (Fr.refl [] _).drew (by simp)) (hKW.fr (Fr.refl [] _).drew).low HM (by rw[hal];rfl)
  have HAL:=Lib.hid hal
  clear hal
  go_wp2_with (fail)
  have hS:(fun X:World=>SR S w.heap.size (w.heap.size+1+1+1) (w.heap.size+1+1+1+1) n.text X∧X.cell? ⟨S.bp,4,none⟩=some (.map (some S.ma))) w3.drew:=⟨nf.sr.drew,hbk.rules.1 4⟩
  refine wp_region_held (S:=fun X:World=>SR S w.heap.size (w.heap.size+1+1+1) (w.heap.size+1+1+1+1) n.text X∧X.cell? ⟨S.bp,4,none⟩=some (.map (some S.ma))) (by kernel_rfl) ?_
  refine tk 0 (.func (.func 50) #[] #[.pointer (some ⟨w.heap.size+1+1+1,0,none⟩)]) rfl hS (fun X hX=>?_) ?_
  ·obtain⟨⟨hX1,hX2,hX3⟩,hX4⟩:=hX;go_simp
  simp only[Act.put,acts]
  refine tk 1 (.bool true) rfl hS (fun X hX=>?_) ?_
  ·go_simp
  simp only[Act.put,acts]
  refine tk 2 (.bool true) rfl hS (fun X hX=>?_) ?_
  ·go_simp
  simp only[Act.put,acts]
  refine tks 3 rfl hS ?_
  simp only[Act.put,acts]
  refine tks 4 rfl hS ?_
  simp only[Act.put,acts]
  refine tks 5 rfl hS ?_
  simp only[Act.put,acts]
  refine tks 6 rfl hS ?_
  simp only[Act.put,acts]
  refine tks 7 rfl hS ?_
  simp only[Act.put,acts]
  refine tks 8 rfl hS ?_
  simp only[Act.put,acts]
  refine tks 9 rfl hS ?_
  simp only[Act.put,acts]
  refine tk 10 (.bool true) rfl hS (fun X hX=>?_) ?_
  ·go_simp
  simp only[Act.put,acts]
  refine wpAnyH_all (rs:=[11]) (by kernel_rfl) (by simp) ?_
  intro i2 hi2
  obtain rfl:i2=11:=by simpa using hi2
  refine wpOp_step rfl (fun K0 hK0=>?_)
  rw[if_pos (by kernel_rfl)]
  go_simp
  refine hflt.mono ?_
  rintro e4 w4 (⟨ft,rfl,hout⟩|⟨_,_,hq2,_⟩)
  ·exact⟨rfl,hout⟩
  ·rw[HAL.out]at hq2;cases hq2
 | false =>
  obtain⟨tb,htb⟩:∃tb:Bool,s.ahead.contains n.text=tb:=⟨_,rfl⟩
  have hhas:=has_any S.ma s.ahead n.text (by simp[maxLen];omega) w3.drew (hahd.fr (Fr.refl [] _).drew)
  rw[htb]at hhas
  have HTB:=Lib.hid (And.intro hal htb)
  clear hal htb
  go_wp2_with (fail)
  have hS:(fun X:World=>SR S w.heap.size (w.heap.size+1+1+1) (w.heap.size+1+1+1+1) n.text X∧X.cell? ⟨S.bp,4,none⟩=some (.map (some S.ma))) w3.drew:=⟨nf.sr.drew,hbk.rules.1 4⟩
  refine wp_region_held (S:=fun X:World=>SR S w.heap.size (w.heap.size+1+1+1) (w.heap.size+1+1+1+1) n.text X∧X.cell? ⟨S.bp,4,none⟩=some (.map (some S.ma))) (by kernel_rfl) ?_
  refine tk 0 (.func (.func 50) #[] #[.pointer (some ⟨w.heap.size+1+1+1,0,none⟩)]) rfl hS (fun X hX=>?_) ?_
  ·obtain⟨⟨hX1,hX2,hX3⟩,hX4⟩:=hX;go_simp
  simp only[Act.put,acts]
  refine tk 1 (.bool false) rfl hS (fun X hX=>?_) ?_
  ·go_simp
  simp only[Act.put,acts]
  refine tk 2 (.bool false) rfl hS (fun X hX=>?_) ?_
  ·go_simp
  simp only[Act.put,acts]
  refine tk 3 (.pointer (some ⟨S.bp,0,none⟩)) rfl hS (fun X hX=>?_) ?_
  ·obtain⟨⟨hX1,hX2,hX3⟩,hX4⟩:=hX;go_simp
  simp only[Act.put,acts]
  refine tk 4 (.pointer (some ⟨S.bp,0,none⟩)) rfl hS (fun X hX=>?_) ?_
  ·go_simp
  simp only[Act.put,acts]
  refine tk 5 (.pointer (some ⟨S.bp,4,none⟩)) rfl hS (fun X hX=>?_) ?_
  ·go_simp
  simp only[Act.put,acts]
  refine tk 6 (.map (some S.ma)) rfl hS (fun X hX=>?_) ?_
  ·obtain⟨⟨hX1,hX2,hX3⟩,hX4⟩:=hX;go_simp
  simp only[Act.put,acts]
  refine tk 7 (.pointer (some ⟨w.heap.size+1+1+1,3,none⟩)) rfl hS (fun X hX=>?_) ?_
  ·go_simp
  simp only[Act.put,acts]
  refine tk 8 (.string ⟨n.text.toArray⟩) rfl hS (fun X hX=>?_) ?_
  ·obtain⟨⟨hX1,hX2,hX3⟩,hX4⟩:=hX;go_simp
  simp only[Act.put,acts]
  refine wpAnyH_all (rs:=[9]) (by kernel_rfl) (by simp) ?_
  intro i2 hi2
  obtain rfl:i2=9:=by simpa using hi2
  refine wpOp_step rfl (fun K0 hK0=>?_)
  rw[if_pos (by kernel_rfl)]
  go_simp
  refine hhas.mono ?_
  rintro e5 w5 ⟨rfl,hf5⟩
  have hfW5:Fr [] w3 w5:=((Fr.refl [] _).drew).trans hf5
  have hS5:(fun X:World=>SR S w.heap.size (w.heap.size+1+1+1) (w.heap.size+1+1+1+1) n.text X∧X.cell? ⟨S.bp,4,none⟩=some (.map (some S.ma))) w5:=⟨hS.1.fr hf5,hf5.cell hS.2 (by simp)⟩
  clear hS
  have hS:=hS5
  refine hK0 _ _ ⟨hS,?_⟩
  refine tk 10 (.bool tb) rfl hS (fun X hX=>?_) ?_
  ·go_simp
  simp only[Act.put,acts]
  have hflt:=nfault_any (S:=S) (ms:=ms) (w:=w) (tb) 80 (ks.length:Int) (w.heap.size+1+1+1) n (nf.h8.fr hfW5 (by simp)) (hKW.fr hfW5).low HM (by rw[HTB.out.1,HTB.out.2];rfl)
  refine wpAnyH_all (rs:=[11]) (by kernel_rfl) (by simp) ?_
  intro i2 hi2
  obtain rfl:i2=11:=by simpa using hi2
  refine wpOp_step rfl (fun K0 hK0=>?_)
  rw[if_pos (by kernel_rfl)]
  go_simp
  refine hflt.mono ?_
  rintro e4 V (⟨ft,rfl,hout⟩|⟨rfl,hVe,hq2,HM⟩)
  ·exact⟨rfl,hout⟩
  have hfV:Fr [] w3 V:=by rw[←hVe];exact hfW5
  replace nf:=nf.ct (Ct.of_fr hfV)
  replace hKW:=hKW.fr hfV
  replace hcW:=hcW.trans (Ct.of_fr hfV)
  refine hK0 _ _ ⟨by rw[←hVe];exact hS,wpAnyH_done (by kernel_rfl) ?_ _⟩
  clear hVe hfV
  clear hflt hS hS5 hhas hf5 hfW5 hsr hlr hbk hahd HTB
  obtain⟨sv,lv,hbk,hsr,hlr⟩:=hKW.ex
  go_wp2_with (fail)
  have hS:(fun X:World=>SR S w.heap.size (w.heap.size+1+1+1) (w.heap.size+1+1+1+1) n.text X∧X.cell? ⟨S.bp,4,none⟩=some (.map (some S.ma))) V.drew:=⟨nf.sr.drew,hbk.rules.1 4⟩
  refine wp_region_held (S:=fun X:World=>SR S w.heap.size (w.heap.size+1+1+1) (w.heap.size+1+1+1+1) n.text X∧X.cell? ⟨S.bp,4,none⟩=some (.map (some S.ma))) (by kernel_rfl) ?_
  refine tk 0 (.pointer (some ⟨S.bp,0,none⟩)) rfl hS (fun X hX=>?_) ?_
  ·obtain⟨⟨hX1,hX2,hX3⟩,hX4⟩:=hX;go_simp
  simp only[Act.put,acts]
  refine tk 1 (.pointer (some ⟨S.bp,0,none⟩)) rfl hS (fun X hX=>?_) ?_
  ·go_simp
  simp only[Act.put,acts]
  refine tk 2 (.pointer (some ⟨S.bp,4,none⟩)) rfl hS (fun X hX=>?_) ?_
  ·go_simp
  simp only[Act.put,acts]
  refine tk 3 (.map (some S.ma)) rfl hS (fun X hX=>?_) ?_
  ·obtain⟨⟨hX1,hX2,hX3⟩,hX4⟩:=hX;go_simp
  simp only[Act.put,acts]
  refine tk 4 (.pointer (some ⟨w.heap.size+1+1+1,3,none⟩)) rfl hS (fun X hX=>?_) ?_
  ·go_simp
  simp only[Act.put,acts]
  refine tk 5 (.string ⟨n.text.toArray⟩) rfl hS (fun X hX=>?_) ?_
  ·obtain⟨⟨hX1,hX2,hX3⟩,hX4⟩:=hX;go_simp
  simp only[Act.put,acts]
  refine tk 6 (.agg #[]) rfl hS (fun X hX=>?_) ?_
  ·go_simp
  simp only[Act.put,acts]
  obtain⟨nn,D,hown,hnn,hhas⟩:=hKW.ahd.fr (Fr.refl [] V).drew
  have hnl:nn<maxLen:=by have:=HB.out.ah;simp[maxLen];omega
  refine wpAnyH_all (rs:=[7]) (by kernel_rfl) (by simp) ?_
  intro i2 hi2
  obtain rfl:i2=7:=by simpa using hi2
  refine wpOp_step rfl (fun K0 hK0=>?_)
  rw[if_pos (by kernel_rfl)]
  refine wp_mapUpdate_step V.drew (.tmp 62) (.tmp 64) (.tmp 65) 64 rfl 9 70 strKey Tryz.underlying64 unitElem S.ma nn D rfl hown hnl (.string ⟨n.text.toArray⟩) (.agg #[]) _ rfl rfl (strKl (by simp[maxLen];omega)) (.agg []) [] unitElem_mk ?_
  intro w7 hown7 hg7
  obtain⟨hK7,hC7⟩:=(hKW.fr (Fr.refl [] V).drew).putAhead (x:=n.text) (by simp[maxLen];omega) hnn hown.isMap hhas hown7 hg7
  have hC8:Ct V w7:=(Ct.of_fr (Fr.refl [] V).drew).trans hC7
  replace nf:=nf.ct hC8
  replace hcW:=hcW.trans hC8
  obtain⟨sv2,lv2,hbk2,hsr2,hlr2⟩:=hK7.ex
  refine hK0 _ _ ⟨⟨nf.sr,hbk2.rules.1 4⟩,wpAnyH_done (by kernel_rfl) ?_ _⟩
  clear hK0 hS hC7 hC8 hKW hbk hsr hlr hown hhas hown7 hg7 hnn hnl
  obtain⟨c4,z4,s4,l4⟩:=nf.h4.rules
  obtain⟨cb,zb,sb,lb⟩:=hbk2.rules
  obtain⟨hK8,hC8⟩:=hK7.noLoops hbk2 hsr2
  obtain⟨w8,hw8⟩:∃X,X=Ck.blk w7 S.bp #[.slice (some ⟨S.g,0,none⟩) S.R.length S.c,.bool S.E.free,.map (some S.mg),.map (some S.mp),.map (some S.ma),sv2,.slice none 0 0] 69:=⟨_,rfl⟩
  go_upto_region 14 with(fail)
  rw[←hw8]
  rw[←hw8]at hK8 hC8
  clear hw8 c4 z4 s4 l4 cb zb sb lb
  replace nf:=nf.ct hC8
  replace hcW:=hcW.trans hC8
  obtain⟨c4,z4,s4,l4⟩:=nf.h4.rules
  have hfm:Fr [] w8 (w8.alloc (.map #[] 0)):=(Fr.refl _ _).alloc _
  have hKm:=hK8.fr hfm
  have hset:SetAt (w8.alloc (.map #[] 0)) w8.heap.size []:=⟨0,_,World.ownsMap_made w8 _ _ _,by simp,fun x=>by simp[Maps.has]⟩
  have hin:=inner4_any #[.pointer (some ⟨w.heap.size+1+1+1+1+1,0,none⟩),.pointer (some ⟨b12,0,none⟩)] w8.heap.size [] (chks S.E ks (d+1) 0 ⟨[]::s.scopes,[],n.text::s.ahead⟩) hKm hset (fresh_map hK8) hK8.bw (by show s.scopes.length≤1000;omega) (fun w1 k1 q1=>body4_any S (w8.heap.size::ms) _ _ _ _ _ _ w1 (nf.ct ((Ct.of_fr hfm).trans q1)).h10 (nf.ct ((Ct.of_fr hfm).trans q1)).h12 (NF.each ih (nf.ct ((Ct.of_fr hfm).trans q1)) rest (B+1) _ (w8.heap.size::ms) (by omega) HR.out HA.out (by simp) ⟨fun l hl=>by
    rcases List.mem_cons.1 hl with rfl|hl
    ·simp
    ·exact Nat.le_succ_of_le (HB.out.sc l hl),by have:=HB.out.ah;simp;omega⟩ (by simp;omega) (by simp) (by omega) k1 (by omega)))
  have hmm:=@run_makeMap Tryz.prog
  go_wp2_with (fail)
  go_at_call 56
  refine hin.mono ?_
  clear hin hmm c4 z4 s4 l4
  rintro e5 w5 ho
  have nf5:e5=.returned (.tuple #[])→NF S n i d ks w.heap.size (w.heap.size+1) (w.heap.size+1+1) (w.heap.size+1+1+1) (w.heap.size+1+1+1+1) (w.heap.size+1+1+1+1+1) b12 g' sc sa cur w5:=fun he=>by
   rcases ho with⟨ft,_,rfl,_⟩|⟨s2,_,_,_,C2⟩
   ·simp[panC]at he
   ·exact nf.ct ((Ct.of_fr hfm).trans C2)
  rcases ho.last HM (hcW.trans (Ct.of_fr hfm)) with⟨ft,h1,rfl,h3⟩|⟨s2,h1,rfl,K2,C2⟩
  ·exact⟨rfl,.inl ⟨ft,h1,rfl,h3⟩⟩
  ·obtain⟨c8,z8,s8,l8⟩:=(nf5 rfl).h8.rules
   go_wp2
   go_end0
   exact .inr ⟨s2,h1,rfl,K2,C2⟩
end Go.Proofs.YtoomapkcoibmhaaGreatDoor
end
section
open Go Go.Proofs Go.RowKit Go.Shelf Go.Maps Ck
namespace Ck
theorem bind_assocE {α β γ:Type} (x:Except Flt α) (f:α→Except Flt β) (g:β→Except Flt γ):((x >>= f) >>= g)=(x >>= fun a=>f a >>= g):=by
 cases x<;>rfl
theorem chkF_split (E:Env):∀(ini:List Tree) (b:Tree) (above k:Nat) (v x:Bytes) (s:CS),chkF E (ini++[b]) above k v x s=(chks E ini above k s >>= fun s1=>(chk E b above (k+ini.length) { s1 with loops:=x::s1.loops,scopes:=[v]::s1.scopes } >>= fun s'=>pure { s' with loops:=s'.loops.tail,scopes:=s'.scopes.tail }))
 | [],b,above,k,v,x,s=>by
  simp only[List.nil_append]
  unfold chkF chks
  rfl
 | t::l,b,above,k,v,x,s=>by
  simp only[List.cons_append]
  unfold chkF chks
  have he:(l++[b]).isEmpty=false:=by simp
  rw[he]
  simp only[Bool.false_eq_true,if_false]
  rw[bind_assocE]
  congr 1
  funext s1
  rw[chkF_split E l b above (k+1) v x s1]
  have:k+1+l.length=k+(t::l).length:=by simp;omega
  rw[this]
theorem popF (X:Except Flt CS):(X >>= fun s'=>pure { s' with loops:=s'.loops.tail,scopes:=s'.scopes.tail })=((X >>= fun s'=>pure { s' with scopes:=s'.scopes.tail }) >>= fun s2=>(pure { s2 with loops:=s2.loops.tail }:Except Flt CS)):=by
 cases X<;>rfl
theorem sizes_snoc (l:List Tree) (b:Tree):sizes (l++[b])=sizes l+b.size:=by
 induction l with
 | nil=>simp[sizes]
 | cons a l ih=>simp[sizes,ih];omega
theorem labNo {ks:List Tree} (h:¬ks.length=4):(if ks.length==4 then(ks.headD default).n.text else[])=[]:=by
 rw[if_neg (by simpa using h)]
theorem labYes {ks:List Tree} (h:ks.length=4) {tl:Tree} {lt:Bytes} (htl:ks[0]? = some tl∧tl.n.text=lt):(if ks.length==4 then(ks.headD default).n.text else[])=lt:=by
 rw[if_pos (by simpa using h)]
 cases ks with
 | nil=>cases htl.1
 | cons a l =>
  obtain⟨h1,h2⟩:=htl
  obtain rfl:a=tl:=by simpa using h1
  exact h2
end Ck
namespace Go.Proofs.YtoomapkcoibmhaaGreatDoor
def SM (b4 b6 b10 b12 b15 m:Nat) (v:Value) (X:World):Prop :=
 X.cell? ⟨b10,0,none⟩=some (.func (.func 51) #[] #[.pointer (some ⟨b4,0,none⟩),.pointer (some ⟨b6,0,none⟩)])∧X.cell? ⟨b12,0,none⟩=some v∧X.cell? ⟨b15,0,none⟩=some (.int .i64 (m:Int))
theorem alls_of {P:Ck.Node→List Tree→Prop}:∀{l:List Tree},(∀t∈l,t.all P)→alls P l
 | [],_=>trivial
 | a::l,h=>⟨h a (by simp),alls_of (fun t ht=>h t (by simp[ht]))⟩
theorem fresh_insert (wc:World) (x:Bytes) (hx:x.length≤maxLen) :
  ∃w10,(Instr.mapUpdate 64 (.map (some wc.heap.size)) (.string ⟨x.toArray⟩) (.agg #[])).run Tryz.prog (wc.alloc (.map #[] 0))=.ok () w10∧SetAt w10 wc.heap.size [x]∧(wc.alloc (.map #[] 0)).grownBy w10 (some wc.heap.size):=by
 have hkey:=strKl hx
 have hown:=World.ownsMap_made wc Tryz.prog 9 (unitElem (H:=Unit))
 have hlt:0<maxLen:=by simp[maxLen]
 obtain⟨w10,h1,h2,h3⟩:=World.ownsMap.update hown strKey Tryz.underlying64 hlt hkey (unitElem_mk (H:=Unit))
 exact⟨w10,h1,⟨1,_,h2,by simp,setPut hown.isMap hx (fun y=>by simp[Maps.has]) _⟩,h3⟩
end Go.Proofs.YtoomapkcoibmhaaGreatDoor
end
