/- A part of the proof. -/
import Derived.RangeFuncBound
import Derived.RangeFuncLeaves
import Derived.Shelf.Abstract
import Derived.Shelf.RegionOpen
import Derived.TacticsInMore
import Derived.LoopNIn
import Derived.LoopIn
import Derived.Test.YtoomapkcoibmhaaGreatDoorQ12
set_option maxRecDepth 100000
set_option maxHeartbeats 12800000
set_option linter.all false
section
open Go Go.Proofs Go.RowKit Go.Shelf Ck
namespace Go.Proofs.YtoomapkcoibmhaaGreatDoor
attribute [local go_sem] Oper.semAt_some
def vK (f:dS):Value:=.agg #[.int .i64 f.code,.int .i64 f.at']
def qU (x:Tok × dS):Array Value:=#[eU x.1,vK x.2]
def kW (b:Nat) (W W':World):Prop:=(∀c T,au W b c T→au W' b c T)∧(Vars W→Vars W')
theorem DI {b:Nat} {A B C:World} (h:kW b A B) (k:kW b B C):kW b A C:=⟨fun c T x=>k.1 c T (h.1 c T x),fun x=>k.2 (h.2 x)⟩
theorem DJ {b:Nat} (W:World) (l:Nat) (o o':Obj) (h:W.heap[l]? = some o) (hc:o.isCells=false):kW b W (W.putObj l o'):=⟨fun c T x=>by
 have hne:b≠l:=fun e=>by
  subst e;rw[show W.heap[b]? = _ from x]at h
  cases h;cases hc
 exact(World.putObj_heap_other hne).trans x,fun hV=>hV.put l o o' h hc⟩
structure Src (s:Bytes) (W:World) (B:Nat):Prop where
 blk:au W B #[.string ⟨s.toArray⟩] 9
 vars:Vars W
theorem Src.fr {s:Bytes} {W W':World} {B:Nat} (h:Src s W B) (hf:Fr [] W W'):Src s W' B:=⟨h.blk.fr hf (by simp),h.vars.fr hf (by simp)⟩
theorem Src.keep {s:Bytes} {W W':World} {B:Nat} (h:Src s W B) (hk:kW B W W'):Src s W' B:=⟨hk.1 _ _ h.blk,hk.2 h.vars⟩
theorem Jv (n:Nat) (hn:1≤n) (l B:Nat) (s:Bytes) (hs:s.length≤65536) (J Jx:List (Tok × dS)→World→Prop)
  (hY:∀pre x W,J pre W→pre.length<70000→YieldAt Fence.wide (n-1) Tryz.prog l (qU x) W fun e W' =>
   (e=.returned (.bool true)∧J (pre++[x]) W'∧kW B W W')∨(e=.returned (.bool false)∧Jx (pre++[x]) W'))
  (hJ:∀pre W W',J pre W→Fr [] W W'→J pre W')
  (W:World) (hB:Src s W B) (h0:J [] W) :
  CallsIn Fence.wide n Tryz.prog 68 #[.func (.yield l) #[] #[],.pointer (some ⟨B,0,none⟩)] W fun e W'=>(∃v,e=.returned v) ∧
   ((∃xs,xs=items (aM s)∧J xs W')∨(∃pre,pre <+: items (aM s)∧Jx pre W')):=by
 have hl:aM s=lexFrom (s.length+1) s 0:=by unfold aM;rw[if_neg (by omega)]
 rw[hl];clear hl;obtain⟨hc,hz,hset,hb⟩:=hB.blk.rules
 refine callsIn_of_wp Tryz.func68 rfl trivial ?_ rfl;simp only[Tryz.ntmps68,List.size_toArray,List.length_cons,List.length_nil,Nat.reduceAdd,Nat.reduceSub,Array.replicate_succ,Array.replicate_zero,List.push_toArray,List.append_toArray,List.nil_append,List.cons_append]
 gi_wp2
 all_goals (try first|(refine wpIn_wide.2 (wp_scope_straight ((wpIn_wide (n:=n)).1 ?_));gi_wp2))
 all_goals (try first|(refine wpIn_wide.2 (wp_label ?_);gi_wp2))
 gi_loopw [3] (fun v wr=>∃(k:Nat),v=.int .i64 k∧Hid (∃(f:Nat) (pre:List (Tok × dS)),k≤s.length∧s.length-k<f∧items (lexFrom (s.length+1) s 0)=pre++items (lexFrom f (s.drop k) k)∧pre.length≤k∧J pre wr∧Src s wr B)) (fun v wr=>s.length-(intOf v).toNat)
 case atStart=>exact⟨0,rfl,s.length+1,[],by omega,by omega,rfl,by simp,h0,hB⟩
 case round =>
  obtain⟨k,rfl,hq⟩:=hrel
  obtain⟨f,pre,hk,hf,hi,hp,hj,hB'⟩:=hq.out
  obtain⟨f,rfl⟩:∃g,f=g+1:=⟨f-1,by omega⟩
  clear hc hz hset hb;obtain⟨hc,hz,hset,hb⟩:=hB'.blk.rules
  have HI:=Lib.hid hi;have HJ:=Lib.hid hj;have HB:=Lib.hid hB';clear hi hj hB' hq;by_cases hlt:k<s.length
  ·have hd:=Lib.hid (List.drop_eq_getElem_cons hlt)
   have hb0:∀(q:(s[k]==32||s[k]==9||s[k]==10)=true),Hid (∃(f:Nat) (pre:List (Tok × dS)),k+1≤s.length∧s.length-(k+1)<f∧items (lexFrom (s.length+1) s 0)=pre++items (lexFrom f (s.drop (k+1)) (k+1))∧pre.length≤k+1∧J pre wr∧Src s wr B):=fun q =>
    ⟨f,pre,by omega,by omega,by rw[←tT f s[k] (s.drop (k+1)) k q,←hd.out];exact HI.out,by omega,HJ.out,HB.out⟩
   cases t32:((s[k].toNat:Int)==32)
   ·cases t9:((s[k].toNat:Int)==9)
    ·cases t10:((s[k].toNat:Int)==10)
     ·have hnb:(s[k]==32||s[k]==9||s[k]==10)=false:=by
       rw[u8b _ 32 32 rfl]at t32;rw[u8b _ 9 9 rfl]at t9;rw[u8b _ 10 10 rfl]at t10;simp[t32,t9,t10]
      clear hb0;cases t35:((s[k].toNat:Int)==35)
      ·have hnr:(s[k]==35)=false:=by rw[←u8b _ 35 35 rfl];exact t35
       have hnx:∃y,y=bM (s.drop k):=⟨_,rfl⟩
       obtain⟨y,hy⟩:=hnx
       have hnext:∀W0,Vars W0→Calls Tryz.prog 71 #[.string ⟨(s.drop k).toArray⟩] W0 (fun e w'=>e=.returned (dB y)∧Fr [] W0 w'):=fun W0 hV0=>by
        have:=OE s[k] (s.drop (k+1)) W0 hV0 (by have:=congrArg List.length hd.out;simp at this;simp;omega)
        rw[←hd.out,←hy]at this;exact this
       have HY:=Lib.hid hy;clear hy;cases y with
       | error e =>
        have he0:e≠0:=by have:=yA _ _ HY.out.symm;omega
        have HI':Hid (items (lexFrom (s.length+1) s 0)=pre++[(⟨0,0,[],0,0⟩,⟨e,k⟩)]):=by
         have h1:=yB f s[k] (s.drop (k+1)) k hnb hnr e (by rw[←hd.out];exact HY.out.symm);rw[←hd.out]at h1
         show _=_;rw[HI.out,h1];simp[items,he0]
        gi_wp2_with (refine⟨trivial,?_⟩;gi_at_call 71;refine callsIn_wide.2 ((hnext _ HB.out.vars).mono ?_);rintro e' w1 ⟨rfl,hf⟩;simp only[dB,eU])
        obtain⟨fn,tmps,assign,body,hy,hR⟩:=hY pre (⟨0,0,[],0,0⟩,⟨e,k⟩) (w1.alloc (.cells #[.int .i64 0,.int .i64 0,.string ⟨#[]⟩,.int .i64 0,.int .u64 0] 82)) (hJ _ _ _ HJ.out (hf.alloc _)) (by omega)
        simp only[qU,eU,vK]at hy;rw[hy]
        gi_wp2
        refine hR.mono ?_;rintro e' W3 (⟨rfl,hJ3,hk3⟩|⟨rfl,hJx3⟩)
        ·gi_wp2
         simp only[Exit.noGoto];refine bodyPost_ret (results_none rfl _ _ _) rfl ?_;exact⟨⟨_,rfl⟩,.inl ⟨_,HI'.out.symm,hJ3⟩⟩
        ·gi_wp2
         simp only[Exit.noGoto];refine bodyPost_ret (results_none rfl _ _ _) rfl ?_;exact⟨⟨_,rfl⟩,.inr ⟨_,by rw[HI'.out];exact List.prefix_rfl,hJx3⟩⟩
       | ok p =>
        obtain⟨t,m⟩:=p
        gi_wp2_with (refine⟨trivial,?_⟩;gi_at_call 71;refine callsIn_wide.2 ((hnext _ HB.out.vars).mono ?_);rintro e' w1 ⟨rfl,hf⟩;simp only[dB,eU];have hJ1:=hJ _ _ _ HJ.out hf;obtain⟨hc1,hz1,acU,hb1⟩:=(HB.out.fr hf).blk.rules)
        have hm:=yx _ _ _ HY.out.symm;rw[List.length_drop]at hm
        have hm2:1≤m∧k+m≤s.length:=by omega
        have hi2:items (lexFrom (s.length+1) s 0)=(pre++[(({ t with at':=(k:Int) }:Tok),(⟨0,0⟩:dS))])++items (lexFrom f (s.drop (k+m)) (k+m)):=by
         have h1:=rX f s[k] (s.drop (k+1)) k hnb hnr t m (by rw[←hd.out];exact HY.out.symm);rw[←hd.out,List.drop_drop]at h1
         rw[HI.out,h1,Jj];simp
        obtain⟨fn,tmps,assign,body,hy,hR⟩:=hY pre ({ t with at':=(k:Int) },⟨0,0⟩) (w1.alloc (.cells #[.int .i64 t.kind,.int .i64 k,.string ⟨t.text.toArray⟩,.int .i64 t.int,.int .u64 t.bits] 82)) (hJ _ _ _ HJ.out (hf.alloc _)) (by omega)
        simp only[qU,eU,vK]at hy;rw[hy];have HI2:=Lib.hid hi2;clear hi2
        gi_wp2
        refine hR.mono ?_;rintro e' W3 (⟨rfl,hJ3,hk3⟩|⟨rfl,hJx3⟩)
        ·have hB3:Src s W3 B:=((HB.out.fr hf).fr ((Fr.refl [] _).alloc _)).keep hk3
         have HQ:Hid (∃(f:Nat) (pre:List (Tok × dS)),k+m≤s.length∧s.length-(k+m)<f∧items (lexFrom (s.length+1) s 0)=pre++items (lexFrom f (s.drop (k+m)) (k+m))∧pre.length≤k+m∧J pre W3∧Src s W3 B) :=
          ⟨f,_,hm2.2,by omega,HI2.out,by simp;omega,hJ3,hB3⟩
         have hkm:(k:Int)+m≤65536:=by omega
         gi_wp2
         exact⟨⟨k+m,by simp,HQ⟩,by simp[intOf];omega⟩
        ·gi_wp2
         simp only[Exit.noGoto];refine bodyPost_ret (results_none rfl _ _ _) rfl ?_;exact⟨⟨_,rfl⟩,.inr ⟨_,by rw[HI2.out];exact List.prefix_append _ _,hJx3⟩⟩
      ·have hr:(s[k]==35)=true:=by rw[←u8b _ 35 35 rfl];exact t35
       have hR:1≤run oo (s.drop k)∧run oo (s.drop k)≤s.length-k:=by
        refine⟨?_,by have:=qP oo (s.drop k);simpa using this⟩;rw[hd.out]
        have:oo s[k]=true:=by rw[beq_iff_eq.1 hr];rfl
        simp[run,this]
       have hq:items (lexFrom (s.length+1) s 0)=pre++items (lexFrom f (s.drop (k+run oo (s.drop k))) (k+run oo (s.drop k))):=by
        have h1:=rW f s[k] (s.drop (k+1)) k hr;rw[←hd.out,List.drop_drop]at h1
        rw[HI.out,h1];rfl
       have Ta:∀W0,Calls Tryz.prog 69 #[.string ⟨s.toArray⟩,.int .i64 k,.func (.func 70) #[] #[]] W0 (fun e w'=>e=.returned (.int .i64 (run oo (s.drop k)))∧W0=w'):=fun W0=>OG s k W0 (by omega) (by omega)
       generalize run oo (s.drop k)=R at hR hq Ta;have hkR:(k:Int)+R≤65536:=by omega
       have HQ:Hid (∃(f:Nat) (pre:List (Tok × dS)),k+R≤s.length∧s.length-(k+R)<f∧items (lexFrom (s.length+1) s 0)=pre++items (lexFrom f (s.drop (k+R)) (k+R))∧pre.length≤k+R∧J pre wr∧Src s wr B) :=
        ⟨f,pre,by omega,by omega,hq,by omega,HJ.out,HB.out⟩
       clear hq hnb hr
       gi_wp2_with (refine⟨trivial,?_⟩;gi_at_call 69;refine callsIn_wide.2 ((Ta _).mono ?_);rintro e w' ⟨rfl,rfl⟩)
       exact⟨⟨k+R,by simp,HQ⟩,by simp[intOf];omega⟩
     ·have HQ:=hb0 (by rw[u8b _ 10 10 rfl]at t10;simp[t10]);clear hb0
      gi_wp2
      exact⟨⟨k+1,by simp,HQ⟩,by simp[intOf];omega⟩
    ·have HQ:=hb0 (by rw[u8b _ 9 9 rfl]at t9;simp[t9]);clear hb0
     gi_wp2
     exact⟨⟨k+1,by simp,HQ⟩,by simp[intOf];omega⟩
   ·have HQ:=hb0 (by rw[u8b _ 32 32 rfl]at t32;simp[t32]);clear hb0
    gi_wp2
    exact⟨⟨k+1,by simp,HQ⟩,by simp[intOf];omega⟩
  ·obtain rfl:k=s.length:=by omega
   have hi2:items (lexFrom (s.length+1) s 0)=pre++[((⟨7,s.length,[],0,0⟩:Tok),(⟨0,0⟩:dS))]:=by
    rw[HI.out,List.drop_length,pF];rfl
   obtain⟨fn,tmps,assign,body,hy,hR⟩:=hY pre (⟨7,s.length,[],0,0⟩,⟨0,0⟩) wr HJ.out (by omega)
   simp only[qU,eU,vK]at hy;have HI2:=Lib.hid hi2;clear hi2
   gi_wp2
   refine hR.mono ?_;rintro e' W3 (⟨rfl,hJ3,hk3⟩|⟨rfl,hJx3⟩)
   ·gi_wp2
    simp only[Exit.noGoto]
    go_end0
    exact⟨⟨_,rfl⟩,.inl ⟨_,HI2.out.symm,hJ3⟩⟩
   ·gi_wp2
    simp only[Exit.noGoto]
    go_end0
    exact⟨⟨_,rfl⟩,.inr ⟨_,by rw[HI2.out];exact List.prefix_rfl,hJx3⟩⟩
theorem ER (n:Nat) (hn:1≤n) (l B:Nat) (s:Bytes) (hs:65536<s.length) (hs':s.length≤140737488351232) (J Jx:List (Tok × dS)→World→Prop)
  (hY:∀pre x W,J pre W→pre.length<70000→YieldAt Fence.wide (n-1) Tryz.prog l (qU x) W fun e W' =>
   (e=.returned (.bool true)∧J (pre++[x]) W'∧kW B W W')∨(e=.returned (.bool false)∧Jx (pre++[x]) W'))
  (W:World) (hB:Src s W B) (h0:J [] W) :
  CallsIn Fence.wide n Tryz.prog 68 #[.func (.yield l) #[] #[],.pointer (some ⟨B,0,none⟩)] W fun e W'=>(∃v,e=.returned v) ∧
   ((∃xs,xs=items (aM s)∧J xs W')∨(∃pre,pre <+: items (aM s)∧Jx pre W')):=by
 have hl:items (aM s)=[]++[(⟨0,0,[],0,0⟩,⟨2,0⟩)]:=by unfold aM;rw[if_pos hs];rfl
 rw[hl];clear hl;obtain⟨hc,hz,hset,hb⟩:=hB.blk.rules
 obtain⟨fn,tmps,assign,body,hy,hR⟩:=hY [] (⟨0,0,[],0,0⟩,⟨2,0⟩) W h0 (by simp)
 simp only[qU,eU,vK]at hy;refine callsIn_of_wp Tryz.func68 rfl trivial ?_ rfl;simp only[Tryz.ntmps68,List.size_toArray,List.length_cons,List.length_nil,Nat.reduceAdd,Nat.reduceSub,Array.replicate_succ,Array.replicate_zero,List.push_toArray,List.append_toArray,List.nil_append,List.cons_append]
 gi_wp2
 all_goals (try first|(refine wpIn_wide.2 (wp_scope_straight ((wpIn_wide (n:=n)).1 ?_));gi_wp2))
 all_goals (try (exfalso;omega))
 refine hR.mono ?_;rintro e' W3 (⟨rfl,hJ3,hk3⟩|⟨rfl,hJx3⟩)
 ·gi_wp2
  simp only[Exit.noGoto];refine bodyPost_ret (results_none rfl _ _ _) rfl ?_;exact⟨⟨_,rfl⟩,.inl ⟨_,rfl,hJ3⟩⟩
 ·gi_wp2
  simp only[Exit.noGoto];refine bodyPost_ret (results_none rfl _ _ _) rfl ?_;exact⟨⟨_,rfl⟩,.inr ⟨_,List.prefix_rfl,hJx3⟩⟩
theorem jW {W W':World} (h:Fr [] W W'):W.grownBy W' none:=⟨h.os,h.tape,h.output,h.size,fun k hk _=>h.block k hk (by simp)⟩
theorem vL (n:Nat) (hn:1≤n) (B:Nat) (s:Bytes) (hs:s.length≤140737488351232) (w:World) (hB:Src s w B) (hBv:∀W,Below w.heap.size w W→Vars W) :
  SeqStopsK Fence.wide n Tryz.prog 68 #[.pointer (some ⟨B,0,none⟩)] qU (kW B) (fun xs=>xs=items (aM s)) (fun pre=>pre <+: items (aM s)) 70000 w:=fun l J Jx W hW hJ _ hY h0=>by
 have hB':Src s W B:=⟨(hW.block B hB.blk.lt).trans hB.blk,hBv W hW⟩
 by_cases h:s.length≤65536
 ·exact Jv n hn l B s h J Jx hY (fun pre A C ha hf=>hJ pre A C none ha (jW hf) (fun r e=>by cases e)) W hB' h0
 ·exact ER n hn l B s (by omega) hs J Jx hY W hB' h0
theorem DK (n:Nat) (s:Bytes) (w:World) :
  CallsIn Fence.wide n Tryz.prog 36 #[.string ⟨s.toArray⟩] w fun e w'=>e=.returned (.func (.func 68) #[] #[.pointer (some ⟨w.heap.size,0,none⟩)])∧w'=w.alloc (.cells #[.string ⟨s.toArray⟩] 9):=by
 refine callsIn_wide.2 ?_;go_enter Tryz.func36,Tryz.ntmps36;go_wp2;go_ret;exact⟨rfl,rfl⟩
def ql (t:Tok):List Value:=[.int .i64 t.kind,.int .i64 t.at',.string ⟨t.text.toArray⟩,.int .i64 t.int,.int .u64 t.bits]
def lK (l:List Tok):List Value:=l.flatMap ql
def zO (l:List Int):List Value:=l.map (.int .i64)
def delta (t:Tok):Int:=if opens t then 1 else if closes t then -1 else 0
def cnt:List Tok→Int
 | []=>0
 | t::l=>delta t+cnt l
def opn:List Tok→Int→List Int
 | [],_=>[]
 | t::l,n=>n::opn l (n+delta t)
theorem OH (l:List Tok) (t:Tok):cnt (l++[t])=cnt l+delta t:=by
 induction l with
 | nil=>simp[cnt]
 | cons a l ih=>simp only[List.cons_append,cnt,ih];omega
theorem OI (l:List Tok) (t:Tok):∀n,opn (l++[t]) n=opn l n++[n+cnt l]:=by
 induction l with
 | nil=>intro n;simp[opn,cnt]
 | cons a l ih=>intro n;simp only[List.cons_append,opn,cnt,ih];rw[Int.add_assoc]
theorem TK (l:List Tok) : -(l.length:Int)≤cnt l∧cnt l≤l.length:=by
 induction l with
 | nil=>simp[cnt]
 | cons a l ih =>
  simp only[cnt,List.length_cons,delta]
  split<;>(try split)<;>omega
theorem zP (l:List Tok):∀n,iM l n=l.zip (opn l n):=by
 induction l with
 | nil=>intro n;rfl
 | cons a l ih =>
  intro n
  have:(if opens a then n+1 else if closes a then n-1 else n)=n+delta a:=by
   unfold delta;split<;>(try split)<;>omega
  simp only[iM,opn,List.zip_cons_cons,this,ih]
theorem oq (l:List Tok):∀n,(opn l n).length=l.length:=by
 induction l with
 | nil=>intro n;rfl
 | cons a l ih=>intro n;simp[opn,ih]
structure BI (w:World) (l:List Tok) (f:dS) (W:World):Prop where
 row:∃vt vo,au W w.heap.size #[vt,.int .i64 f.code,.int .i64 f.at',vo,.int .i64 0] 77 ∧
  W.ownsRow (w.heap.size+1+1+1+1) 82 5 vt l.length (lK l)∧W.ownsRow (w.heap.size+1+1+1+1) 3 1 vo l.length (zO (opn l 0))
 p:au W (w.heap.size+1) #[.pointer (some ⟨w.heap.size,0,none⟩)] 56
 n:au W (w.heap.size+1+1) #[.int .i64 (cnt l)] 3
 fr:Fr [] w W
 sz:w.heap.size+1+1+1<W.heap.size
theorem BI.kept {w:World} {l:List Tok} {f:dS} {W W':World} {row:Option Nat} (h:BI w l f W) (hg:W.grownBy W' row)
  (hr:∀k,row=some k→w.heap.size≤k∧(W.heap[k]?.map Obj.isCells=some false∨W.heap.size≤k)):BI w l f W':=by
 obtain⟨⟨vt,vo,h1,h2,h3⟩,h4,h5,h6,h7⟩:=h
 have hr':=fun k e=>(hr k e).2
 exact⟨⟨vt,vo,au.qm h1 hg hr',bR h2 hg hr',bR h3 hg hr'⟩,au.qm h4 hg hr',au.qm h5 hg hr',h6.grown hg (fun k e=>.inr (hr k e).1),Nat.lt_of_lt_of_le h7 hg.size⟩
theorem kD {W:World} {b:Nat} {c c':Array Value} {T:TypeId} (h:au W b c' T):KeepsOthers W (blk W b c T) :=
 KeepsOthers.of_grownBy wW (fun j o e ho=>by cases e;rw[show W.heap[b]? = _ from h]at ho;cases ho;rfl)
theorem Tryz.infoTok:(Tryz.prog.info? 82).map (fun i=>(i.zero,i.size,i.bytes))=some (some (.agg #[.int .i64 0,.int .i64 0,.string ⟨#[]⟩,.int .i64 0,.int .u64 0]),5,48):=by kernel_rfl
def Gw (pre:List (Tok × dS)):Prop:=∀x∈pre,x.2.code=0
theorem MF (s:Bytes) (w:World) (Rs:Vars w) (hs:s.length≤140737488351232) :
  Calls Tryz.prog 24 #[.string ⟨s.toArray⟩] w fun e w'=>e=.returned (.pointer (some ⟨w.heap.size,0,none⟩))∧BI w (aM s).1 (aM s).2 w':=by
 refine(callsIn_wide (n:=3)).1 ?_
 have h1:1≤3:=by omega
 refine callsIn_of_wp_marks Tryz.func24 rfl trivial ?_ rfl;simp only[Tryz.ntmps24,List.size_toArray,List.length_cons,List.length_nil,Nat.reduceAdd,Nat.reduceSub,Array.replicate_succ,Array.replicate_zero,List.push_toArray,List.append_toArray,List.nil_append,List.cons_append]
 gi_wp2_with (refine⟨trivial,?_⟩;gi_at_call 36;refine(DK _ s _).mono ?_;rintro e w' ⟨rfl,rfl⟩)
 obtain⟨W0,hW0⟩:∃W0,((((w.alloc (.cells #[.slice none 0 0,.int .i64 0,.int .i64 0,.slice none 0 0,.int .i64 0] 77)).alloc (.cells #[.pointer (some ⟨w.heap.size,0,none⟩)] 56)).alloc (.cells #[.int .i64 0] 3)).alloc (.cells #[.string ⟨s.toArray⟩] 9))=W0:=⟨_,rfl⟩
 have hsz:W0.heap.size=w.heap.size+1+1+1+1:=by rw[←hW0];simp
 have hB0:au W0 (w.heap.size+1+1+1) #[.string ⟨s.toArray⟩] 9:=by rw[←hW0];have:=au.new (((w.alloc (.cells #[.slice none 0 0,.int .i64 0,.int .i64 0,.slice none 0 0,.int .i64 0] 77)).alloc (.cells #[.pointer (some ⟨w.heap.size,0,none⟩)] 56)).alloc (.cells #[.int .i64 0] 3)) #[.string ⟨s.toArray⟩] 9;simpa using this
 have hI0:BI w [] ⟨0,0⟩ W0:=by
  rw[←hW0];refine⟨⟨.slice none 0 0,.slice none 0 0,(((au.new w _ _).alloc _).alloc _).alloc _,⟨rfl,.inl ⟨rfl,rfl⟩⟩,⟨rfl,.inl ⟨rfl,rfl⟩⟩⟩,?_,?_,((((Fr.refl _ _).alloc _).alloc _).alloc _).alloc _,by simp⟩
  ·have:=au.new (w.alloc (.cells #[.slice none 0 0,.int .i64 0,.int .i64 0,.slice none 0 0,.int .i64 0] 77)) #[.pointer (some ⟨w.heap.size,0,none⟩)] 56
   simp only[World.size_alloc]at this;exact(this.alloc _).alloc _
  ·have:=au.new ((w.alloc (.cells #[.slice none 0 0,.int .i64 0,.int .i64 0,.slice none 0 0,.int .i64 0] 77)).alloc (.cells #[.pointer (some ⟨w.heap.size,0,none⟩)] 56)) #[.int .i64 0] 3
   simp only[World.size_alloc]at this;exact this.alloc _
 rw[hW0];clear hW0
 refine wpIn_rangeFunc_ownH rfl h1 (gf:=68) (lb:=#[.pointer (some ⟨w.heap.size+1+1+1,0,none⟩)]) rfl trivial (enters_of Tryz.func68 (by kernel_rfl) rfl)
  (vL (3-1) (by omega) (w.heap.size+1+1+1) s hs W0 ⟨hB0,Rs.fr hI0.fr (by simp)⟩ (fun W hb=>(Rs.fr hI0.fr (by simp)).fr (Fr.of_below hb) (by simp))) DI (fun W l o o' _ ho hc _=>DJ W l o o' ho hc) (Below.refl _ _) (fun _=>rfl)
  (fun pre W=>Gw pre∧BI w (pre.map Prod.fst) ⟨0,0⟩ W)
  (fun c pre W=>c=.exit 0∧∃oV x,pre=oV++[x]∧Gw oV∧x.2.code≠0∧BI w (oV.map Prod.fst) x.2 W)
  (fun pre X Y row h hg hr=>⟨h.1,h.2.kept hg (fun k e=>⟨by have:=(hr k e).1;omega,.inl (by obtain⟨_,o,ho,hc⟩:=hr k e;rw[ho];simp[hc])⟩)⟩)
  (fun _ pre X Y row h hg hr=>by
   obtain⟨e0,oV,x,e1,e2,e3,h⟩:=h
   exact⟨e0,oV,x,e1,e2,e3,h.kept hg (fun k e=>⟨by have:=(hr k e).1;omega,.inl (by obtain⟨_,o,ho,hc⟩:=hr k e;rw[ho];simp[hc])⟩)⟩)
  ⟨fun x hx=>(by cases hx),hI0⟩
  (fun x a' W=>∃Bt Bf,au W Bt (ql x.1).toArray 82∧au W Bf #[.int .i64 x.2.code,.int .i64 x.2.at'] 26∧(∃c,au W w.heap.size c 77∧∀v,c[0]? = some v→v.ownBlock≠some Bt)∧w.heap.size+1+1+1<Bt∧a'={ tmps:=#[.string ⟨s.toArray⟩,undef,.pointer none,.pointer (some ⟨w.heap.size+1,0,none⟩),.pointer (some ⟨w.heap.size+1+1,0,none⟩),.pointer (some ⟨Bt,0,none⟩),.pointer (some ⟨Bf,0,none⟩),.agg #[.slice none 0 0,.int .i64 0,.int .i64 0,.slice none 0 0,.int .i64 0],.pointer (some ⟨w.heap.size,0,none⟩),.string ⟨s.toArray⟩,.func (.func 68) #[] #[.pointer (some ⟨w.heap.size+1+1+1,0,none⟩)],eU x.1,vK x.2,undef,undef,undef,undef,undef,undef,undef,undef,undef,undef,undef,undef,undef,undef,undef,undef,undef,undef,undef,undef,undef,undef,undef,undef,undef,undef,undef,undef,undef,undef,undef,undef,undef,undef,undef,undef,undef,undef],defers:=[] })
  (fun x a' _ X Y row hs hg hr=>by
   obtain⟨Bt,Bf,b1,b2,⟨c,b3,b4⟩,b5,b6⟩:=hs
   have hr':∀k,row=some k→X.heap[k]?.map Obj.isCells=some false∨X.heap.size≤k:=fun k e=>.inl (by obtain⟨_,o,ho,hc⟩:=hr k e;rw[ho];simp[hc])
   exact⟨Bt,Bf,au.qm b1 hg hr',au.qm b2 hg hr',⟨c,au.qm b3 hg hr',b4⟩,b5,b6⟩)
  ?assign ?body ?done ?stop
 case assign =>
  rintro l pre ⟨t,f⟩ W K ⟨hok,hi⟩ hK;simp only[qU,eU,vK]
  gi_wp2
  have hi':=(hi.kept (World.grownBy_alloc W (.cells #[.int .i64 t.kind,.int .i64 t.at',.string ⟨t.text.toArray⟩,.int .i64 t.int,.int .u64 t.bits] 82) none) (fun k e=>by cases e)).kept (World.grownBy_alloc _ (.cells #[.int .i64 f.code,.int .i64 f.at'] 26) none) (fun k e=>by cases e);have hp:=hi'.p.lt;obtain⟨⟨vt,vo,g1,g2,g3⟩,g4,g5,g6,g7⟩:=hi
  refine hK _ _ (((KeepsOthers.alloc _ _).trans (KeepsOthers.alloc _ _)).from _) ⟨fun c T h=>(h.alloc _).alloc _,fun h=>h.fr (((Fr.refl [] _).alloc _).alloc _) (by simp)⟩ ⟨hok,hi'⟩ ⟨W.heap.size,W.heap.size+1,(au.new W _ _).alloc _,?_,⟨_,(g1.alloc _).alloc _,?_⟩,?_,rfl⟩
  ·have:=au.new (W.alloc (.cells #[.int .i64 t.kind,.int .i64 t.at',.string ⟨t.text.toArray⟩,.int .i64 t.int,.int .u64 t.bits] 82)) #[.int .i64 f.code,.int .i64 f.at'] 26
   simpa using this
  ·intro v hv;obtain rfl:vt=v:=by simpa using hv
   intro e
   have:=(g2.lt _ e).1
   have:=(g2.lt _ e).2
   omega
  ·exact g7
 case body =>
  rintro l pre ⟨t,f⟩ a' W hl _ ⟨hok,hi⟩ ⟨Bt,Bf,b1,b2,⟨c,b3,b4⟩,b5,rfl⟩ hlt;simp only[eU,vK];simp only[ql]at b1;obtain⟨⟨vt,vo,g1,g2,g3⟩,g4,g5,g6,g7⟩:=hi
  obtain rfl:c=_:=by have:=b3.symm.trans g1;simpa using this
  have hne:vt.ownBlock≠some Bt:=b4 vt (by simp);clear b4 b3;obtain⟨tc,tz,jX,tb⟩:=b1.rules
  obtain⟨fc,fz,aaG,fb⟩:=b2.rules
  obtain⟨rc,rz,bE,rb⟩:=g1.rules
  obtain⟨pc,pz,ES,pb⟩:=g4.rules
  obtain⟨nc,nz,nN,nb⟩:=g5.rules
  cases hf:(f.code != 0)
  ·obtain⟨i0,hi0,hz0,hz1,hz2⟩:=info_parts Tryz.infoTok
   obtain⟨Vm,w1,hrun,hown,hg1,hnil⟩:=run_append_own (P:=Tryz.prog) (w:=W.drew.alloc (.cells #[.int .i64 t.kind,.int .i64 t.at',.string ⟨t.text.toArray⟩,.int .i64 t.int,.int .u64 t.bits] 82)) (w.heap.size+1+1+1+1) 75 75 82 i0 _ 5 48 Tryz.underlying75 hi0 hz0 hz1 hz2 rfl (by decide)
    vt pre.length (lK (pre.map Prod.fst)) (bR (by simpa using g2) (dL (World.grownBy_alloc W.drew _ none)) (fun k e=>by cases e)) ⟨W.heap.size,0,none⟩ 1 1 (ql t) rfl (World.news_of_block (au.new W.drew _ _)) (by simp[ql,Value.oneCell']) (by simp[maxLen];omega) (by omega) (by simp;omega)
   obtain⟨g',cap',rfl⟩:=ownsRow_succ hown
   gi_wp2
   have hS:(fun X:World=>au X (w.heap.size+1) #[.pointer (some ⟨w.heap.size,0,none⟩)] 56∧au X Bt #[.int .i64 t.kind,.int .i64 t.at',.string ⟨t.text.toArray⟩,.int .i64 t.int,.int .u64 t.bits] 82) W.drew:=⟨g4,b1⟩
   have hS1:(fun X:World=>au X (w.heap.size+1) #[.pointer (some ⟨w.heap.size,0,none⟩)] 56∧au X Bt #[.int .i64 t.kind,.int .i64 t.at',.string ⟨t.text.toArray⟩,.int .i64 t.int,.int .u64 t.bits] 82) (W.drew.alloc (.cells #[.int .i64 t.kind,.int .i64 t.at',.string ⟨t.text.toArray⟩,.int .i64 t.int,.int .u64 t.bits] 82)):=⟨hS.1.alloc _,hS.2.alloc _⟩
   have hlt:=g2.lt;have hS2:(fun X:World=>au X (w.heap.size+1) #[.pointer (some ⟨w.heap.size,0,none⟩)] 56∧au X Bt #[.int .i64 t.kind,.int .i64 t.at',.string ⟨t.text.toArray⟩,.int .i64 t.int,.int .u64 t.bits] 82) w1:=⟨hS1.1.grown hg1 (fun e=>by have:=(hlt _ e).1;omega),hS1.2.grown hg1 hne⟩
   have TL:au w1 w.heap.size #[vt,.int .i64 0,.int .i64 0,vo,.int .i64 0] 77:=(show au W.drew _ _ _ from g1).alloc _ |>.grown hg1 (fun e=>by have:=(hlt _ e).1;omega);obtain⟨qc,qz,bS,qb⟩:=TL.rules
   apply dY (S:=fun X:World=>au X (w.heap.size+1) #[.pointer (some ⟨w.heap.size,0,none⟩)] 56∧au X Bt #[.int .i64 t.kind,.int .i64 t.at',.string ⟨t.text.toArray⟩,.int .i64 t.int,.int .u64 t.bits] 82)
   case hm=>kernel_rfl
   case hd=>kernel_rfl
   case h =>
    refine tkn 0 (.pointer (some ⟨w.heap.size,0,none⟩)) rfl hS (fun X hX=>?_) ?_
    ·obtain⟨k1,k3⟩:=hX;obtain⟨c1,_,_,_⟩:=k1.rules;obtain⟨c3,_,_,_⟩:=k3.rules;clear k1 k3;go_simp
    simp only[Act.put,acts];refine tkn 1 (.pointer (some ⟨w.heap.size,0,none⟩)) rfl hS (fun X hX=>?_) ?_
    ·obtain⟨k1,k3⟩:=hX;obtain⟨c1,_,_,_⟩:=k1.rules;obtain⟨c3,_,_,_⟩:=k3.rules;clear k1 k3;go_simp
    simp only[Act.put,acts];refine tkn 2 (.pointer (some ⟨w.heap.size,0,none⟩)) rfl hS (fun X hX=>?_) ?_
    ·obtain⟨k1,k3⟩:=hX;obtain⟨c1,_,_,_⟩:=k1.rules;obtain⟨c3,_,_,_⟩:=k3.rules;clear k1 k3;go_simp
    simp only[Act.put,acts];refine tkn 3 (.pointer (some ⟨w.heap.size,0,none⟩)) rfl hS (fun X hX=>?_) ?_
    ·obtain⟨k1,k3⟩:=hX;obtain⟨c1,_,_,_⟩:=k1.rules;obtain⟨c3,_,_,_⟩:=k3.rules;clear k1 k3;go_simp
    simp only[Act.put,acts];refine tkn 5 (.agg #[.int .i64 t.kind,.int .i64 t.at',.string ⟨t.text.toArray⟩,.int .i64 t.int,.int .u64 t.bits]) rfl hS (fun X hX=>?_) ?_
    ·obtain⟨k1,k3⟩:=hX;obtain⟨c1,_,_,_⟩:=k1.rules;obtain⟨c3,_,_,_⟩:=k3.rules;clear k1 k3;go_simp
    simp only[Act.put,acts];refine wpAnyH_all (rs:=[4,6]) (by kernel_rfl) (by simp) ?_;intro i hi;obtain rfl|rfl:i=4∨i=6:=by simpa using hi
    ·refine wpOp_step rfl (fun K hK=>?_);rw[if_pos (by rfl)];go_simp;refine hK _ _ ⟨hS,?_⟩;clear hK K;refine wpAnyH_all (rs:=[6]) (by kernel_rfl) (by simp) ?_;intro i hi;obtain rfl:i=6:=by simpa using hi
     refine wpOp_step rfl (fun K hK=>?_);rw[if_pos (by rfl)];go_simp;refine hK _ _ ⟨hS1,?_⟩;clear hK K;refine wpAnyH_all (rs:=[7]) (by kernel_rfl) (by simp) ?_;intro i hi;obtain rfl:i=7:=by simpa using hi
     refine wpOp_step rfl (fun K hK=>?_);rw[if_pos (by rfl)];refine wp_append_run (.tmp 24) (.tmp 26) 75 rfl rfl rfl hrun ?_;refine hK _ _ ⟨hS2,?_⟩;clear hK K;refine tkn 8 (.pointer (some ⟨w.heap.size,0,none⟩)) rfl hS2 (fun X hX=>?_) ?_
     ·obtain⟨k1,k3⟩:=hX;obtain⟨c1,_,_,_⟩:=k1.rules;obtain⟨c3,_,_,_⟩:=k3.rules;clear k1 k3;go_simp
     simp only[Act.put,acts];refine tkn 9 (.pointer (some ⟨w.heap.size,0,none⟩)) rfl hS2 (fun X hX=>?_) ?_
     ·obtain⟨k1,k3⟩:=hX;obtain⟨c1,_,_,_⟩:=k1.rules;obtain⟨c3,_,_,_⟩:=k3.rules;clear k1 k3;go_simp
     simp only[Act.put,acts];refine wpAnyH_all (rs:=[10]) (by kernel_rfl) (by simp) ?_;intro i hi;obtain rfl:i=10:=by simpa using hi
     refine wpOp_step rfl (fun K hK=>?_);rw[if_pos (by rfl)];go_simp;exact hK _ _ ⟨⟨au.aL hS2.1 (by omega),au.aL hS2.2 (by omega)⟩,wpAnyH_done (by kernel_rfl) ⟨rfl,rfl,rfl⟩ _⟩
    ·refine wpOp_step rfl (fun K hK=>?_);rw[if_pos (by rfl)];go_simp;refine hK _ _ ⟨hS1,?_⟩;clear hK K;refine wpAnyH_all (rs:=[4]) (by kernel_rfl) (by simp) ?_;intro i hi;obtain rfl:i=4:=by simpa using hi
     refine wpOp_step rfl (fun K hK=>?_);rw[if_pos (by rfl)];go_simp;refine hK _ _ ⟨hS1,?_⟩;clear hK K;refine wpAnyH_all (rs:=[7]) (by kernel_rfl) (by simp) ?_;intro i hi;obtain rfl:i=7:=by simpa using hi
     refine wpOp_step rfl (fun K hK=>?_);rw[if_pos (by rfl)];refine wp_append_run (.tmp 24) (.tmp 26) 75 rfl rfl rfl hrun ?_;refine hK _ _ ⟨hS2,?_⟩;clear hK K;refine tkn 8 (.pointer (some ⟨w.heap.size,0,none⟩)) rfl hS2 (fun X hX=>?_) ?_
     ·obtain⟨k1,k3⟩:=hX;obtain⟨c1,_,_,_⟩:=k1.rules;obtain⟨c3,_,_,_⟩:=k3.rules;clear k1 k3;go_simp
     simp only[Act.put,acts];refine tkn 9 (.pointer (some ⟨w.heap.size,0,none⟩)) rfl hS2 (fun X hX=>?_) ?_
     ·obtain⟨k1,k3⟩:=hX;obtain⟨c1,_,_,_⟩:=k1.rules;obtain⟨c3,_,_,_⟩:=k3.rules;clear k1 k3;go_simp
     simp only[Act.put,acts];refine wpAnyH_all (rs:=[10]) (by kernel_rfl) (by simp) ?_;intro i hi;obtain rfl:i=10:=by simpa using hi
     refine wpOp_step rfl (fun K hK=>?_);rw[if_pos (by rfl)];go_simp;exact hK _ _ ⟨⟨au.aL hS2.1 (by omega),au.aL hS2.2 (by omega)⟩,wpAnyH_done (by kernel_rfl) ⟨rfl,rfl,rfl⟩ _⟩
   case hK =>
    obtain⟨Wb,ET⟩:∃X,blk w1 w.heap.size #[.slice (some ⟨g',0,none⟩) (pre.length+1) cap',.int .i64 0,.int .i64 0,vo,.int .i64 0] 77=X:=⟨_,rfl⟩
    have e1:au Wb (w.heap.size+1) #[.pointer (some ⟨w.heap.size,0,none⟩)] 56:=by rw[←ET];exact au.aL hS2.1 (by omega)
    have e2:au Wb Bt #[.int .i64 t.kind,.int .i64 t.at',.string ⟨t.text.toArray⟩,.int .i64 t.int,.int .u64 t.bits] 82:=by rw[←ET];exact au.aL hS2.2 (by omega)
    have e3:au Wb w.heap.size #[.slice (some ⟨g',0,none⟩) (pre.length+1) cap',.int .i64 0,.int .i64 0,vo,.int .i64 0] 77:=by rw[←ET];exact au.blk qb
    have e4:au Wb (w.heap.size+1+1) #[.int .i64 (cnt (pre.map Prod.fst))] 3:=by
     rw[←ET];refine au.aL ?_ (by omega);exact(show au W.drew _ _ _ from g5).alloc _ |>.grown hg1 (fun e=>by have:=(hlt _ e).1;omega)
    have e5:Wb.ownsRow (w.heap.size+1+1+1+1) 82 5 (.slice (some ⟨g',0,none⟩) (pre.length+1) cap') (pre.length+1) (lK (pre.map Prod.fst)++ql t):=by rw[←ET];exact eB hown (by omega)
    have e6:Wb.ownsRow (w.heap.size+1+1+1+1) 3 1 vo pre.length (zO (opn (pre.map Prod.fst) 0)):=by
     rw[←ET];refine eB ?_ (by omega);exact(bR (row:=none) (by simpa using g3) (dL (World.grownBy_alloc W.drew _ none)) (fun k e=>by cases e)).kept hg1 (zQ g3 g2 (by decide))
    have e7:Fr [] w Wb:=by rw[←ET];exact((g6.drew.alloc _).grown hg1 (fun k e=>.inr (by have:=(hlt _ e).1;omega))).blk (.inr (Nat.le_refl _)) _ _
    have e8:KeepsFrom (w.heap.size+1+1+1+1) W Wb:=by
     rw[←ET];refine KeepsOthers.from ?_ _
     refine(((KeepsOthers.drew W).trans (KeepsOthers.alloc _ _)).trans (KeepsOthers.of_grownBy hg1 (fun j o hj ho=>tH (W:=W.drew.alloc _) (bR g2 (dL (World.grownBy_alloc W.drew _ none)) (fun k e=>by cases e)) j o hj ho))).trans (kD TL)
    have e9:kW (w.heap.size+1+1+1) W Wb:=⟨fun c T h=>by
     rw[←ET];refine au.aL ?_ (by omega)
     exact(show au W.drew _ _ _ from h).alloc _ |>.grown hg1 (fun e=>by have:=(hlt _ e).1;omega),fun _=>Rs.fr e7 (by simp)⟩
    have e10:w.heap.size+1+1+1<Wb.heap.size:=by rw[←ET,aB];have:=hg1.size;simp at this;omega
    rw[ET];obtain⟨m0,hm0,mz0,mz1,mz2⟩:=info_parts Tryz.infoInt
    obtain⟨vo',w2,OJ,hown2,hg2,Vn⟩:=run_append_own (P:=Tryz.prog) (w:=Wb.drew.alloc (.cells #[.int .i64 (cnt (pre.map Prod.fst))] 3)) (w.heap.size+1+1+1+1) 36 36 3 m0 _ 1 8 Tryz.underlying36 hm0 mz0 mz1 mz2 rfl (by decide)
     vo pre.length (zO (opn (pre.map Prod.fst) 0)) (bR e6 (dL (World.grownBy_alloc Wb.drew _ none)) (fun k e=>by cases e)) ⟨Wb.heap.size,0,none⟩ 1 1 [.int .i64 (cnt (pre.map Prod.fst))] rfl (World.news_of_block (au.new Wb.drew _ _)) (by simp[Value.oneCell']) (by simp[maxLen];omega) (by omega) (by simp;omega)
    obtain⟨g2',OL,rfl⟩:=ownsRow_succ hown2
    clear hS hS1 hS2 qc qz bS qb TL hrun hown hg1 hnil g1 g2 g4 g5 b1 tc tz jX tb rc rz bE rb pc pz ES pb nc nz nN nb ET;have hlt2:=e6.lt;obtain⟨rc,rz,bE,rb⟩:=e3.rules
    have hT:(fun X:World=>au X (w.heap.size+1) #[.pointer (some ⟨w.heap.size,0,none⟩)] 56∧au X (w.heap.size+1+1) #[.int .i64 (cnt (pre.map Prod.fst))] 3) Wb.drew:=⟨e1,e4⟩
    have hT1:(fun X:World=>au X (w.heap.size+1) #[.pointer (some ⟨w.heap.size,0,none⟩)] 56∧au X (w.heap.size+1+1) #[.int .i64 (cnt (pre.map Prod.fst))] 3) (Wb.drew.alloc (.cells #[.int .i64 (cnt (pre.map Prod.fst))] 3)):=⟨hT.1.alloc _,hT.2.alloc _⟩
    have MG:(fun X:World=>au X (w.heap.size+1) #[.pointer (some ⟨w.heap.size,0,none⟩)] 56∧au X (w.heap.size+1+1) #[.int .i64 (cnt (pre.map Prod.fst))] 3) w2:=⟨hT1.1.grown hg2 (fun e=>by have:=(hlt2 _ e).1;omega),hT1.2.grown hg2 (fun e=>by have:=(hlt2 _ e).1;omega)⟩
    have gr2:au w2 w.heap.size #[.slice (some ⟨g',0,none⟩) (pre.length+1) cap',.int .i64 0,.int .i64 0,vo,.int .i64 0] 77:=(show au Wb.drew _ _ _ from e3).alloc _ |>.grown hg2 (fun e=>by have:=(hlt2 _ e).1;omega);obtain⟨qc,qz,bS,qb⟩:=gr2.rules
    gi_wp2
    apply dY (S:=fun X:World=>au X (w.heap.size+1) #[.pointer (some ⟨w.heap.size,0,none⟩)] 56∧au X (w.heap.size+1+1) #[.int .i64 (cnt (pre.map Prod.fst))] 3)
    case hm=>kernel_rfl
    case hd=>kernel_rfl
    case h =>
     refine tkn 0 (.pointer (some ⟨w.heap.size,0,none⟩)) rfl hT (fun X hX=>?_) ?_
     ·obtain⟨k1,k3⟩:=hX;obtain⟨c1,_,_,_⟩:=k1.rules;obtain⟨c3,_,_,_⟩:=k3.rules;clear k1 k3;go_simp
     simp only[Act.put,acts];refine tkn 1 (.pointer (some ⟨w.heap.size,0,none⟩)) rfl hT (fun X hX=>?_) ?_
     ·obtain⟨k1,k3⟩:=hX;obtain⟨c1,_,_,_⟩:=k1.rules;obtain⟨c3,_,_,_⟩:=k3.rules;clear k1 k3;go_simp
     simp only[Act.put,acts];refine tkn 2 (.pointer (some ⟨w.heap.size,0,none⟩)) rfl hT (fun X hX=>?_) ?_
     ·obtain⟨k1,k3⟩:=hX;obtain⟨c1,_,_,_⟩:=k1.rules;obtain⟨c3,_,_,_⟩:=k3.rules;clear k1 k3;go_simp
     simp only[Act.put,acts];refine tkn 3 (.pointer (some ⟨w.heap.size,3,none⟩)) rfl hT (fun X hX=>?_) ?_
     ·obtain⟨k1,k3⟩:=hX;obtain⟨c1,_,_,_⟩:=k1.rules;obtain⟨c3,_,_,_⟩:=k3.rules;clear k1 k3;go_simp
     simp only[Act.put,acts];refine tkn 5 (.int .i64 (cnt (pre.map Prod.fst))) rfl hT (fun X hX=>?_) ?_
     ·obtain⟨k1,k3⟩:=hX;obtain⟨c1,_,_,_⟩:=k1.rules;obtain⟨c3,_,_,_⟩:=k3.rules;clear k1 k3;go_simp
     simp only[Act.put,acts];refine wpAnyH_all (rs:=[4,6]) (by kernel_rfl) (by simp) ?_;intro i hi;obtain rfl|rfl:i=4∨i=6:=by simpa using hi
     ·refine wpOp_step rfl (fun K hK=>?_);rw[if_pos (by rfl)];go_simp;refine hK _ _ ⟨hT,?_⟩;clear hK K;refine wpAnyH_all (rs:=[6]) (by kernel_rfl) (by simp) ?_;intro i hi;obtain rfl:i=6:=by simpa using hi
      refine wpOp_step rfl (fun K hK=>?_);rw[if_pos (by rfl)];go_simp;refine hK _ _ ⟨hT1,?_⟩;clear hK K;refine wpAnyH_all (rs:=[7]) (by kernel_rfl) (by simp) ?_;intro i hi;obtain rfl:i=7:=by simpa using hi
      refine wpOp_step rfl (fun K hK=>?_);rw[if_pos (by rfl)];refine wp_append_run (.tmp 34) (.tmp 36) 36 rfl rfl rfl OJ ?_;refine hK _ _ ⟨MG,?_⟩;clear hK K;refine tkn 8 (.pointer (some ⟨w.heap.size,0,none⟩)) rfl MG (fun X hX=>?_) ?_
      ·obtain⟨k1,k3⟩:=hX;obtain⟨c1,_,_,_⟩:=k1.rules;obtain⟨c3,_,_,_⟩:=k3.rules;clear k1 k3;go_simp
      simp only[Act.put,acts];refine tkn 9 (.pointer (some ⟨w.heap.size,3,none⟩)) rfl MG (fun X hX=>?_) ?_
      ·obtain⟨k1,k3⟩:=hX;obtain⟨c1,_,_,_⟩:=k1.rules;obtain⟨c3,_,_,_⟩:=k3.rules;clear k1 k3;go_simp
      simp only[Act.put,acts];refine wpAnyH_all (rs:=[10]) (by kernel_rfl) (by simp) ?_;intro i hi;obtain rfl:i=10:=by simpa using hi
      refine wpOp_step rfl (fun K hK=>?_);rw[if_pos (by rfl)];go_simp;exact hK _ _ ⟨⟨au.aL MG.1 (by omega),au.aL MG.2 (by omega)⟩,wpAnyH_done (by kernel_rfl) ⟨rfl,rfl,rfl⟩ _⟩
     ·refine wpOp_step rfl (fun K hK=>?_);rw[if_pos (by rfl)];go_simp;refine hK _ _ ⟨hT1,?_⟩;clear hK K;refine wpAnyH_all (rs:=[4]) (by kernel_rfl) (by simp) ?_;intro i hi;obtain rfl:i=4:=by simpa using hi
      refine wpOp_step rfl (fun K hK=>?_);rw[if_pos (by rfl)];go_simp;refine hK _ _ ⟨hT1,?_⟩;clear hK K;refine wpAnyH_all (rs:=[7]) (by kernel_rfl) (by simp) ?_;intro i hi;obtain rfl:i=7:=by simpa using hi
      refine wpOp_step rfl (fun K hK=>?_);rw[if_pos (by rfl)];refine wp_append_run (.tmp 34) (.tmp 36) 36 rfl rfl rfl OJ ?_;refine hK _ _ ⟨MG,?_⟩;clear hK K;refine tkn 8 (.pointer (some ⟨w.heap.size,0,none⟩)) rfl MG (fun X hX=>?_) ?_
      ·obtain⟨k1,k3⟩:=hX;obtain⟨c1,_,_,_⟩:=k1.rules;obtain⟨c3,_,_,_⟩:=k3.rules;clear k1 k3;go_simp
      simp only[Act.put,acts];refine tkn 9 (.pointer (some ⟨w.heap.size,3,none⟩)) rfl MG (fun X hX=>?_) ?_
      ·obtain⟨k1,k3⟩:=hX;obtain⟨c1,_,_,_⟩:=k1.rules;obtain⟨c3,_,_,_⟩:=k3.rules;clear k1 k3;go_simp
      simp only[Act.put,acts];refine wpAnyH_all (rs:=[10]) (by kernel_rfl) (by simp) ?_;intro i hi;obtain rfl:i=10:=by simpa using hi
      refine wpOp_step rfl (fun K hK=>?_);rw[if_pos (by rfl)];go_simp;exact hK _ _ ⟨⟨au.aL MG.1 (by omega),au.aL MG.2 (by omega)⟩,wpAnyH_done (by kernel_rfl) ⟨rfl,rfl,rfl⟩ _⟩
    case hK =>
     obtain⟨Wc,hWc⟩:∃X,blk w2 w.heap.size #[.slice (some ⟨g',0,none⟩) (pre.length+1) cap',.int .i64 0,.int .i64 0,.slice (some ⟨g2',0,none⟩) (pre.length+1) OL,.int .i64 0] 77=X:=⟨_,rfl⟩
     have f1:au Wc (w.heap.size+1) #[.pointer (some ⟨w.heap.size,0,none⟩)] 56:=by rw[←hWc];exact au.aL MG.1 (by omega)
     have f4:au Wc (w.heap.size+1+1) #[.int .i64 (cnt (pre.map Prod.fst))] 3:=by rw[←hWc];exact au.aL MG.2 (by omega)
     have f3:au Wc w.heap.size #[.slice (some ⟨g',0,none⟩) (pre.length+1) cap',.int .i64 0,.int .i64 0,.slice (some ⟨g2',0,none⟩) (pre.length+1) OL,.int .i64 0] 77:=by rw[←hWc];exact au.blk qb
     have f2:au Wc Bt #[.int .i64 t.kind,.int .i64 t.at',.string ⟨t.text.toArray⟩,.int .i64 t.int,.int .u64 t.bits] 82:=by
      rw[←hWc];refine au.aL ?_ (by omega);refine(show au Wb.drew _ _ _ from e2).alloc _ |>.grown hg2 (fun e=>?_)
      rcases e6.2 with⟨rfl,_⟩|⟨g,cap,cur,rfl,_,hgb,_⟩
      ·cases e
      ·obtain rfl:g=Bt:=by simpa[Value.ownBlock]using e
       have:=hgb.symm.trans e2
       simp at this
     have f6:Wc.ownsRow (w.heap.size+1+1+1+1) 3 1 (.slice (some ⟨g2',0,none⟩) (pre.length+1) OL) (pre.length+1) (zO (opn (pre.map Prod.fst) 0)++[.int .i64 (cnt (pre.map Prod.fst))]):=by rw[←hWc];exact eB hown2 (by omega)
     have f5:Wc.ownsRow (w.heap.size+1+1+1+1) 82 5 (.slice (some ⟨g',0,none⟩) (pre.length+1) cap') (pre.length+1) (lK (pre.map Prod.fst)++ql t):=by
      rw[←hWc];refine eB ?_ (by omega);exact(bR (row:=none) e5 (dL (World.grownBy_alloc Wb.drew _ none)) (fun k e=>by cases e)).kept hg2 (zQ e5 e6 (by decide))
     have f7:Fr [] w Wc:=by rw[←hWc];exact((e7.drew.alloc _).grown hg2 (fun k e=>.inr (by have:=(hlt2 _ e).1;omega))).blk (.inr (Nat.le_refl _)) _ _
     have f8:KeepsFrom (w.heap.size+1+1+1+1) W Wc:=by
      rw[←hWc];refine e8.trans (KeepsOthers.from ?_ _);refine(((KeepsOthers.drew Wb).trans (KeepsOthers.alloc _ _)).trans (KeepsOthers.of_grownBy hg2 (fun j o hj ho=>tH (W:=Wb.drew.alloc _) (bR e6 (dL (World.grownBy_alloc Wb.drew _ none)) (fun k e=>by cases e)) j o hj ho))).trans (kD gr2)
     have f9:kW (w.heap.size+1+1+1) W Wc:=⟨fun c T h=>by
      rw[←hWc];refine au.aL ?_ (by omega)
      exact(show au Wb.drew _ _ _ from e9.1 _ _ h).alloc _ |>.grown hg2 (fun e=>by have:=(hlt2 _ e).1;omega),fun _=>Rs.fr f7 (by simp)⟩
     have f10:w.heap.size+1+1+1<Wc.heap.size:=by rw[←hWc,aB];have:=hg2.size;simp at this;omega
     rw[hWc];clear hT hT1 MG qc qz bS qb gr2 OJ hown2 hg2 Vn e1 e2 e3 e4 e5 e6 e7 e8 e9 e10 rc rz bE rb hWc
     have fin:∀X,Fr [w.heap.size+1+1] Wc X→au X (w.heap.size+1+1) #[.int .i64 (cnt (pre.map Prod.fst)+delta t)] 3 →
       KeepsFrom W0.heap.size W X∧kW (w.heap.size+1+1+1) W X∧Gw (pre++[(t,f)])∧BI w ((pre++[(t,f)]).map Prod.fst) ⟨0,0⟩ X:=fun X hX hbn=>by
      rw[hsz];refine⟨⟨Nat.le_trans f8.size hX.size,fun k o hk hko ho=>?_⟩,⟨fun c T h=>(f9.1 c T h).fr hX (by simp),fun h=>(f9.2 h).fr hX (fun x hx=>by have:=Rs.le;simp only[List.mem_singleton]at hx;omega)⟩,?_,?_⟩
      ·have h1:=f8.same k o hk hko ho;rw[hX.block k (Array.getElem?_eq_some_iff.1 h1).1 (by simp;omega)];exact h1
      ·intro x hx;rcases List.mem_append.1 hx with hx|hx
       ·exact hok x hx
       ·obtain rfl:=List.mem_singleton.1 hx;simpa using hf
      ·have hm:(pre++[(t,f)]).map Prod.fst=pre.map Prod.fst++[t]:=by simp
       rw[hm];refine⟨⟨_,_,f3.fr hX (by simp;omega),?_,?_⟩,f1.fr hX (by simp),by rw[OH];exact hbn,f7.then hX (by simp;omega),Nat.lt_of_lt_of_le f10 hX.size⟩
       ·have:=aF f5 hX (by simp)
        simpa[lK]using this
       ·have:=aF f6 hX (by simp)
        rw[OI];simpa[zO]using this
     have hcnt:=TK (pre.map Prod.fst);simp only[List.length_map]at hcnt;obtain⟨nc,nz,nN,nb⟩:=f4.rules
     obtain⟨tc,tz,jX,tb⟩:=f2.rules
     generalize cnt (pre.map Prod.fst)=n at *;have hop:=wX t;have hcl:=Jw t;simp only[eU,EK]at hop hcl;have hbk:∀k,w.heap.size+1+1<Wc.heap.size+k:=fun k=>by omega
     have hbt:∀k,Bt<Wc.heap.size+k:=fun k=>by omega
     cases ho:opens t
     ·cases hc:closes t
      ·rw[ho]at hop;rw[hc]at hcl
       gi_wp2_with (first|(refine⟨trivial,?_⟩;gi_at_call 37;refine(CallsIn.inRound l (callsIn_wide.2 (hop _))).mono ?_;rintro e w' ⟨rfl,rfl⟩)|(refine⟨trivial,?_⟩;gi_at_call 38;refine(CallsIn.inRound l (callsIn_wide.2 (hcl _))).mono ?_;rintro e w' ⟨rfl,rfl⟩))
       refine fin _ ?_ ?_
       ·exact((Fr.refl _ _).alloc _).alloc _
       ·have:=(f4.alloc (.cells #[.int .i64 t.kind,.int .i64 t.at',.string ⟨t.text.toArray⟩,.int .i64 t.int,.int .u64 t.bits] 82)).alloc (.cells #[.int .i64 t.kind,.int .i64 t.at',.string ⟨t.text.toArray⟩,.int .i64 t.int,.int .u64 t.bits] 82)
        simpa[delta,ho,hc]using this
      ·rw[ho]at hop;rw[hc]at hcl
       gi_wp2_with (first|(refine⟨trivial,?_⟩;gi_at_call 37;refine(CallsIn.inRound l (callsIn_wide.2 (hop _))).mono ?_;rintro e w' ⟨rfl,rfl⟩)|(refine⟨trivial,?_⟩;gi_at_call 38;refine(CallsIn.inRound l (callsIn_wide.2 (hcl _))).mono ?_;rintro e w' ⟨rfl,rfl⟩))
       refine fin _ ?_ ?_
       ·exact(((Fr.refl _ _).blk (.inl (List.mem_singleton.2 rfl)) _ _).alloc _).alloc _
       ·simp only[delta,ho,hc,Bool.false_eq_true,if_false,if_true,←Int.sub_eq_add_neg];exact((au.blk nb).alloc _).alloc _
     ·rw[ho]at hop
      gi_wp2_with (first|(refine⟨trivial,?_⟩;gi_at_call 37;refine(CallsIn.inRound l (callsIn_wide.2 (hop _))).mono ?_;rintro e w' ⟨rfl,rfl⟩)|(refine⟨trivial,?_⟩;gi_at_call 38;refine(CallsIn.inRound l (callsIn_wide.2 (hcl _))).mono ?_;rintro e w' ⟨rfl,rfl⟩))
      refine fin _ ?_ ?_
      ·exact((Fr.refl _ _).blk (.inl (List.mem_singleton.2 rfl)) _ _).alloc _
      ·simp only[delta,ho,if_true];exact(au.blk nb).alloc _
  ·gi_wp2
   refine⟨(kD g1).from _,rfl,pre,t,f,rfl,hok,by simpa using hf,⟨vt,vo,au.blk rb,eB g2 (by omega),eB g3 (by omega)⟩,au.aL g4 (by omega),au.aL g5 (by omega),g6.blk (.inr (Nat.le_refl _)) _ _,by rw[aB];exact g7⟩
 case done =>
  rintro D xs W hD rfl ⟨hok,hi⟩ hK;obtain⟨h0,hm⟩:=zI (aM s).1 (aM s).2 hok
  rw[hm]at hi
  rw[←Jk s h0]at hi
  have pc:=hi.p.rules.1
  gi_wp2
  refine⟨by simp,.inl ⟨_,_,rfl,run_takeDeferred hK,?_⟩⟩;refine⟨_,results_tmp rfl _ _ _,rfl,?_⟩;exact hi.kept (grownBy_putObj' W D _) (fun k e=>by cases e;exact⟨by omega,.inl (by rw[hK];rfl)⟩)
 case stop =>
  rintro D c pre W hD hSp ⟨rfl,oV,x,rfl,hok,hx,hi⟩ hK;obtain⟨rest,hr⟩:=hSp
  obtain⟨e1,e2⟩:=zH (aM s).1 (aM s).2 oV rest x (by simpa using hr) hok hx
  rw[e1,e2]at hi
  have pc:=hi.p.rules.1
  gi_wp2
  refine⟨by simp,.inl ⟨_,_,rfl,run_takeDeferred hK,?_⟩⟩;refine⟨_,results_tmp rfl _ _ _,rfl,?_⟩;exact hi.kept (grownBy_putObj' W D _) (fun k e=>by cases e;exact⟨by omega,.inl (by rw[hK];rfl)⟩)
end Go.Proofs.YtoomapkcoibmhaaGreatDoor
end
section
open Go Go.Proofs Go.RowKit Go.Shelf Ck
namespace Go.Proofs.YtoomapkcoibmhaaGreatDoor
structure jf where
 toks:List Tok
 F:dS
 vt:Value
 vo:Value
 bp:Nat
structure PS (S:jf) (a:Nat) (w:World):Prop where
 blk:au w S.bp #[S.vt,.int .i64 S.F.code,.int .i64 S.F.at',S.vo,.int .i64 a] 77
 rt:w.ownsRow (S.bp+1) 82 5 S.vt S.toks.length (lK S.toks)
 ro:w.ownsRow (S.bp+1) 3 1 S.vo S.toks.length (zO (opn S.toks 0))
 lim:S.toks.length≤70000
 ha:a≤S.toks.length
def jf.ts (S:jf) (a:Nat):TS:=(iM S.toks 0).drop a
def jf.at (S:jf):Value:=.pointer (some ⟨S.bp,0,none⟩)
theorem PS.fr {S:jf} {a:Nat} {w w':World} (h:PS S a w) (hf:Fr [] w w'):PS S a w' :=
 ⟨h.blk.fr hf (by simp),aF h.rt hf (by simp),aF h.ro hf (by simp),h.lim,h.ha⟩
theorem PS.go {S:jf} {a b:Nat} {w w':World} (h:PS S a w) (hf:Fr [S.bp] w w') (hb:au w' S.bp #[S.vt,.int .i64 S.F.code,.int .i64 S.F.at',S.vo,.int .i64 b] 77) (hl:b≤S.toks.length):PS S b w' :=
 ⟨hb,aF h.rt hf (by simp),aF h.ro hf (by simp),h.lim,hl⟩
def eD (f:dS):Ending:=.panicked [{ v:=.iface 26 (.agg #[.int .i64 f.code,.int .i64 f.at']),recovered:=false }]
def EU:Except dS Tok→Ending
 | .ok t=>.returned (eU t)
 | .error f=>eD f
theorem MH:∀(l:List Tok) (i:Nat) (t:Tok),l[i]? = some t→∀k,k<5→(lK l)[i*5+k]? = (ql t)[k]?:=by
 intro l
 induction l with
 | nil=>intro i t h;simp at h
 | cons x l ih =>
  intro i t h k hk;cases i with
  | zero =>
   obtain rfl:x=t:=by simpa using h
   rw[show lK (x::l)=ql x++lK l from rfl,List.getElem?_append_left (by simp[ql];omega)];simp
  | succ i =>
   have:=ih i t (by simpa using h) k hk
   rw[show lK (x::l)=ql x++lK l from rfl,List.getElem?_append_right (by simp[ql];omega),←this];congr 1;simp[ql];omega
theorem DL (l:List Tok) (i:Nat) (hi:i<l.length):(iM l 0).drop i=(l[i],(opn l 0)[i]'(by rw[oq];exact hi))::(iM l 0).drop (i+1):=by
 have hl:i<(iM l 0).length:=by rw[zP];simp[oq];exact hi
 rw[List.drop_eq_getElem_cons hl];congr 1;simp only[zP,List.getElem_zip]
theorem nO (l:List Tok):(iM l 0).length=l.length:=by rw[zP];simp[oq]
theorem PS.tok {S:jf} {a:Nat} {w:World} (h:PS S a w) (i:Nat) (hi:i<S.toks.length):∃g c g' c' t o,S.vt=.slice (some ⟨g,0,none⟩) S.toks.length c∧S.vo=.slice (some ⟨g',0,none⟩) S.toks.length c' ∧
  (iM S.toks 0).drop i=(t,o)::(iM S.toks 0).drop (i+1)∧g<w.heap.size∧g'<w.heap.size ∧
  w.cell? ⟨g,i*5,none⟩=some (.int .i64 t.kind)∧w.cell? ⟨g,i*5+1,none⟩=some (.int .i64 t.at')∧w.cell? ⟨g,i*5+2,none⟩=some (.string ⟨t.text.toArray⟩) ∧
  w.cell? ⟨g,i*5+3,none⟩=some (.int .i64 t.int)∧w.cell? ⟨g,i*5+4,none⟩=some (.int .u64 t.bits)∧w.cell? ⟨g',i,none⟩=some (.int .i64 o):=by
 obtain⟨g,c,hg⟩:∃g c,S.vt=.slice (some ⟨g,0,none⟩) S.toks.length c:=by
  rcases h.rt.2 with⟨_,h0⟩|⟨g,cap,_,e,_⟩
  ·omega
  ·exact⟨g,cap,e⟩
 obtain⟨g',c',hg'⟩:∃g c,S.vo=.slice (some ⟨g,0,none⟩) S.toks.length c:=by
  rcases h.ro.2 with⟨_,h0⟩|⟨g,cap,_,e,_⟩
  ·omega
  ·exact⟨g,cap,e⟩
 have hl:=(h.rt.lt g (by rw[hg];rfl)).2;have hl':=(h.ro.lt g' (by rw[hg'];rfl)).2;have ht:S.toks[i]? = some S.toks[i]:=by simp[hi]
 have hc:∀k,k<5→∀u,(ql S.toks[i])[k]? = some u→w.cell? ⟨g,i*5+k,none⟩=some u:=fun k hk u hu=>by rw[←add0];exact h.rt.cells (g:=g) (by rw[hg];rfl) (i*5+k) u ((MH S.toks i _ ht k hk).trans hu)
 refine⟨g,c,g',c',S.toks[i],(opn S.toks 0)[i]'(by rw[oq];exact hi),hg,hg',DL _ _ hi,hl,hl',hc 0 (by omega) _ rfl,hc 1 (by omega) _ rfl,hc 2 (by omega) _ rfl,hc 3 (by omega) _ rfl,hc 4 (by omega) _ rfl,?_⟩;rw[←add0];refine h.ro.cells (g:=g') (by rw[hg'];rfl) i _ ?_;simp[zO,oq,hi]
theorem tX (S:jf) (a:Nat) (w:World) (h:PS S a w) :
  Calls Tryz.prog 40 #[.pointer (some ⟨S.bp,0,none⟩),.int .i64 0] w fun e w'=>e=EU (aW S.F (S.ts a))∧Fr [] w w':=by
 obtain⟨hc,hz,hset,hb⟩:=h.blk.rules
 have hlim:=h.lim;by_cases hl:a<S.toks.length
 ·obtain⟨g,c,g',c',t,o,e1,e2,e3,l1,l2,k0,k1,k2,k3,k4,k5⟩:=h.tok a hl
  have HL:Hid (aW S.F (S.ts a)=if opens t&&decide (64≤o)then .error ⟨71,t.at'⟩else .ok t):=by
   show _=_;rw[jf.ts,e3];rfl
  rw[e1,e2]at hc
  clear e1 e2 e3 h;have hbk:∀k,S.bp<w.heap.size+k:=fun k=>by omega
  have hbg:∀k,g<w.heap.size+k:=fun k=>by omega
  have hbo:∀k,g'<w.heap.size+k:=fun k=>by omega
  generalize S.toks.length=n at *;have hop:=wX t;simp only[eU,EK]at hop;cases ho:opens t
  ·rw[ho]at hop
   have HR:Hid (aW S.F (S.ts a)=.ok t):=by show _=_;rw[HL.out,ho];rfl
   clear HL;go_enter Tryz.func40,Tryz.ntmps40
   go_wp2_with (go_at_call 37;refine(hop _).mono ?_;rintro e w' ⟨rfl,rfl⟩)
   refine bodyPost_ret (v:=eU t) (by simp[results,Tryz.results40,go_sem,eU]) rfl ⟨by rw[HR.out];rfl,?_⟩
   repeat (first|exact Fr.refl _ _|refine Fr.alloc ?_ _)
  ·rw[ho]at hop
   by_cases h64:64≤o
   ·have HR:Hid (aW S.F (S.ts a)=.error ⟨71,t.at'⟩):=by show _=_;rw[HL.out,ho];simp[h64]
    clear HL;go_enter Tryz.func40,Tryz.ntmps40
    go_wp2_with (go_at_call 37;refine(hop _).mono ?_;rintro e w' ⟨rfl,rfl⟩)
    refine⟨rfl,by rw[HR.out];rfl,?_⟩
    repeat (first|exact Fr.refl _ _|refine Fr.alloc ?_ _)
   ·have HR:Hid (aW S.F (S.ts a)=.ok t):=by show _=_;rw[HL.out,ho];simp[h64]
    clear HL;go_enter Tryz.func40,Tryz.ntmps40
    go_wp2_with (go_at_call 37;refine(hop _).mono ?_;rintro e w' ⟨rfl,rfl⟩)
    refine bodyPost_ret (v:=eU t) (by simp[results,Tryz.results40,go_sem,eU]) rfl ⟨by rw[HR.out];rfl,?_⟩
    repeat (first|exact Fr.refl _ _|refine Fr.alloc ?_ _)
 ·have HR:Hid (aW S.F (S.ts a)=.error S.F):=by
   show _=_;rw[jf.ts,List.drop_eq_nil_of_le (by rw[nO];omega)];rfl
  have hvt:∃x c,S.vt=.slice x S.toks.length c:=by
   rcases h.rt.2 with⟨e,h0⟩|⟨g,cap,_,e,_⟩
   ·exact⟨_,_,by rw[e,h0]⟩
   ·exact⟨_,_,e⟩
  obtain⟨x,c,e1⟩:=hvt
  rw[e1]at hc
  have hbk:∀k,S.bp<w.heap.size+k:=fun k=>by omega
  have ha:=h.ha;clear e1 h;generalize S.toks.length=n at *;go_enter Tryz.func40,Tryz.ntmps40;go_wp2;refine⟨rfl,by rw[HR.out];rfl,?_⟩
  repeat (first|exact Fr.refl _ _|refine Fr.alloc ?_ _)
theorem Tc (S:jf) (a:Nat) (w:World) (h:PS S a w) :
  Calls Tryz.prog 40 #[.pointer (some ⟨S.bp,0,none⟩),.int .i64 1] w fun e w'=>e=EU (aW S.F ((S.ts a).tail))∧Fr [] w w':=by
 obtain⟨hc,hz,hset,hb⟩:=h.blk.rules
 have hlim:=h.lim;by_cases hl:(a+1)<S.toks.length
 ·obtain⟨g,c,g',c',t,o,e1,e2,e3,l1,l2,k0,k1,k2,k3,k4,k5⟩:=h.tok (a+1) hl
  have HL:Hid (aW S.F ((S.ts a).tail)=if opens t&&decide (64≤o)then .error ⟨71,t.at'⟩else .ok t):=by
   show _=_;rw[jf.ts,List.tail_drop,e3];rfl
  rw[e1,e2]at hc
  clear e1 e2 e3 h;have hbk:∀k,S.bp<w.heap.size+k:=fun k=>by omega
  have hbg:∀k,g<w.heap.size+k:=fun k=>by omega
  have hbo:∀k,g'<w.heap.size+k:=fun k=>by omega
  generalize S.toks.length=n at *;have hop:=wX t;simp only[eU,EK]at hop;cases ho:opens t
  ·rw[ho]at hop
   have HR:Hid (aW S.F ((S.ts a).tail)=.ok t):=by show _=_;rw[HL.out,ho];rfl
   clear HL;go_enter Tryz.func40,Tryz.ntmps40
   go_wp2_with (go_at_call 37;refine(hop _).mono ?_;rintro e w' ⟨rfl,rfl⟩)
   refine bodyPost_ret (v:=eU t) (by simp[results,Tryz.results40,go_sem,eU]) rfl ⟨by rw[HR.out];rfl,?_⟩
   repeat (first|exact Fr.refl _ _|refine Fr.alloc ?_ _)
  ·rw[ho]at hop
   by_cases h64:64≤o
   ·have HR:Hid (aW S.F ((S.ts a).tail)=.error ⟨71,t.at'⟩):=by show _=_;rw[HL.out,ho];simp[h64]
    clear HL;go_enter Tryz.func40,Tryz.ntmps40
    go_wp2_with (go_at_call 37;refine(hop _).mono ?_;rintro e w' ⟨rfl,rfl⟩)
    refine⟨rfl,by rw[HR.out];rfl,?_⟩
    repeat (first|exact Fr.refl _ _|refine Fr.alloc ?_ _)
   ·have HR:Hid (aW S.F ((S.ts a).tail)=.ok t):=by show _=_;rw[HL.out,ho];simp[h64]
    clear HL;go_enter Tryz.func40,Tryz.ntmps40
    go_wp2_with (go_at_call 37;refine(hop _).mono ?_;rintro e w' ⟨rfl,rfl⟩)
    refine bodyPost_ret (v:=eU t) (by simp[results,Tryz.results40,go_sem,eU]) rfl ⟨by rw[HR.out];rfl,?_⟩
    repeat (first|exact Fr.refl _ _|refine Fr.alloc ?_ _)
 ·have HR:Hid (aW S.F ((S.ts a).tail)=.error S.F):=by
   show _=_;rw[jf.ts,List.tail_drop,List.drop_eq_nil_of_le (by rw[nO];omega)];rfl
  have hvt:∃x c,S.vt=.slice x S.toks.length c:=by
   rcases h.rt.2 with⟨e,h0⟩|⟨g,cap,_,e,_⟩
   ·exact⟨_,_,by rw[e,h0]⟩
   ·exact⟨_,_,e⟩
  obtain⟨x,c,e1⟩:=hvt
  rw[e1]at hc
  have hbk:∀k,S.bp<w.heap.size+k:=fun k=>by omega
  have ha:=h.ha;clear e1 h;generalize S.toks.length=n at *;go_enter Tryz.func40,Tryz.ntmps40;go_wp2;refine⟨rfl,by rw[HR.out];rfl,?_⟩
  repeat (first|exact Fr.refl _ _|refine Fr.alloc ?_ _)
end Go.Proofs.YtoomapkcoibmhaaGreatDoor
end
