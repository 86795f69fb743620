/- A part of the proof. -/
import Derived.Lib.AppendZeros
import Derived.Lib.ItoaNum
import Derived.Outline
import Derived.Test.YtoomapkcoibmhaaGreatDoorQ14
import Derived.Test.YtoomapkcoibmhaaGreatDoorQ19
set_option maxRecDepth 100000
set_option maxHeartbeats 12800000
set_option linter.all false
section
open Go Go.Proofs Go.RowKit Ck
namespace Ck
theorem decF_eq:∀(f n:Nat) (acc:Bytes),n<f→decF f n acc=Lib.decDigits n++acc
 | 0,n,acc,h=>by omega
 | f+1,n,acc,h=>by
  unfold decF
  rw[Lib.decDigits]
  by_cases hn:n<10
  ·rw[if_pos hn,dif_pos hn];rfl
  ·rw[if_neg hn,dif_neg hn,decF_eq f (n/10) _ (by omega)];simp
theorem dec_eq (n:Nat):dec n=Lib.decDigits n:=by
 unfold dec
 rw[decF_eq _ _ _ (by omega),List.append_nil]
theorem decI_eq (i:Int):decI i=Lib.itoa i:=by
 unfold decI Lib.itoa
 split
 ·rw[dec_eq]
 ·rw[dec_eq];congr 1;omega
end Ck
namespace Go.Proofs.YtoomapkcoibmhaaGreatDoor
theorem fr_grow {S:List Nat} {a w:World} (h:Fr S a w) (os:Array Obj):Fr S a («Sort».grow w os) :=
 h.trans ⟨rfl,rfl,rfl,by simp[«Sort».grow],fun b hb _=>by simp[«Sort».grow,Array.getElem?_append_left hb]⟩
theorem numInt_any (i:Int) (w:World) (hV:Vars w) (h0 : -9223372036854775808≤i) (h1:i≤9223372036854775807):Calls Tryz.prog 220 #[.int .i64 i] w fun e w'=>e=.returned (.string ⟨(decI i).toArray⟩)∧Fr [] w w':=by
 have hc:=Tryz.strconv_FormatInt_10 i h0 h1 w hV.facts.pow10
 rw[←decI_eq]at hc
 go_enter Tryz.func220,Tryz.ntmps220
 go_wp2_with (first|(go_at_call 262;refine hc.mono ?_;rintro e w1 ⟨rfl,k,os,rfl⟩))
 go_ret
 refine⟨rfl,?_⟩
 exact fr_grow ((Fr.refl _ _).drewN _) _
theorem wpList_append_run {P:Program} {ops:Array Oper} {rest:List Oper} {o:Oper} {a:Act} {w w':World} {Q:Exit→Act→World→Prop} (hg:o.guard=none) (s x:Operand) (t u:TypeId)
  (ho:o.op=.call { callee:=.builtin .append,args:=#[s,x],argTypes:=#[t,u] }) {v y v':Value} (hs:a.eval s=v) (hx:a.eval x=y)
  (hrun:(Builtin.append_ #[t,u] o.type #[v,y]).run P w=.ok v' w') (hK:wpList P ops Q rest (a.put o.dst v') w'):wpList P ops Q (o::rest) a w :=
 wpList_plain hg fun _ hK'=>by
  unfold Oper.wp execOp
  simp only[ho,resolve,invoke,builtin,Sem.run_bind,Sem.run_pure,Result.andThen_ok,List.map_toArray,List.map_cons,List.map_nil,hs,hx,hrun]
  exact hK' _ _ hK
theorem grow_any (n:Nat) (w:World) (h0:0<n) (h1:n≤1000):Calls Tryz.prog 287 #[.slice none 0 0,.int .i64 n] w fun e w'=>∃x c,e=.returned (.slice x 0 c)∧w'.ownsRow w.heap.size 9 1 (.slice x 0 c) 0 []∧Fr [] w w':=by
 obtain⟨i0,hi,hz0,hz1,hz2⟩:=info_parts Tryz.infoStr
 have hrun:=Lib.run_append_nil_zeros (P:=Tryz.prog) w 67 3 67 9 i0 (.string ⟨#[]⟩) .i64 .i64 Tryz.underlying67 Tryz.underlying3 hi hz0 n h0 (by omega) (by omega) (by rw[hz2];omega)
 go_enter Tryz.func287,Tryz.ntmps287
 go_wp2_with (at_builtin;refine wpList_append_run rfl (.tmp 20) (.tmp 21) _ _ rfl rfl rfl hrun ?_)
 go_ret
 refine⟨_,_,rfl,⟨rfl,.inr ⟨w.heap.size,_,_,rfl,Nat.le_refl _,Blk.new w _ _,Nat.zero_le _,grownCap_le_maxLen _ _ _ _ (by simp[maxLen];omega),?_,by simp⟩⟩,((Fr.refl _ _).alloc _).drew⟩
 have:=grownCap_ge w n 0 9
 simp[size_zeroCells]
 omega
theorem flat_succ' (k:Nat) (l:List Bytes) (h:levels[k]? = some l):(levels.take (k+1)).flatten=(levels.take k).flatten++l:=by
 rw[List.take_succ,h];simp
theorem flat_succ (k:Nat) (l:List Bytes) (h:levels[k]? = some l):(levels.take (k+1)).flatten.length=(levels.take k).flatten.length+l.length:=by
 rw[flat_succ' k l h,List.length_append]
theorem flat_le (k:Nat):(levels.take k).flatten.length≤11:=by
 match k with
 | 0|1|2|3|4|5=>decide
 | k+6=>rw[List.take_of_length_le (by simp[levels])];decide
theorem concat_any (w:World) (lo g:Nat) (h:LevelsAt w lo g):Calls Tryz.prog 260 #[.slice (some ⟨g,0,none⟩) 6 6] w fun e w'=>∃x c,e=.returned (.slice x 11 c)∧w'.ownsRow w.heap.size 9 1 (.slice x 11 c) 11 (svals levels.flatten)∧Fr [] w w':=by
 obtain⟨i0,hi,hz0,hz1,hz2⟩:=info_parts Tryz.infoStr
 obtain⟨_,hgw,hL⟩:=h
 go_enter Tryz.func260,Tryz.ntmps260
 go_wp2
 go_loop [3,5,11] (fun sz _s i=>∃k:Nat,k≤6∧i=.int .i64 k∧sz=.int .i64 ((levels.take k).flatten.length:Nat)) (fun _ _ i=>6-(intOf i).toNat)
 case atStart=>exact⟨0,by omega,rfl,rfl⟩
 case round =>
  obtain⟨k,hk,rfl,rfl⟩:=hrel
  by_cases hlt:k<6
  ·obtain⟨l,hl⟩:∃l,levels[k]? = some l:=⟨levels[k]'(by simpa[levels]using hlt),by simp[levels,hlt]⟩
   obtain⟨b,c,k1,k2,k3,k4⟩:=hL k l hl
   obtain⟨n,hn⟩:∃n,Hid ((levels.take k).flatten.length=n):=⟨_,rfl⟩
   have hn2:=flat_succ k l hl
   have hb:=flat_le k
   have hb2:=flat_le (k+1)
   rw[hn2]at hb2
   rw[hn.out]at hb hb2 hn2 ⊢
   have HN:=Lib.hid hn2
   clear hn2 hl k4
   go_wp2
   go_round
   case rel=>exact⟨k+1,by omega,by go_num,by rw[HN.out];go_num⟩
   case measure=>simp[intOf];omega
  ·obtain rfl:k=6:=by omega
   have h11:(levels.take 6).flatten.length=11:=by decide
   rw[h11]
   go_wp2_with (first|(go_at_call 287;refine(grow_any 11 _ (by omega) (by omega)).mono ?_;rintro e w1 ⟨x1,c1,rfl,hown1,hf1⟩))
   go_loopw [6,8,27] (fun v _s i wr=>∃(k:Nat) (x:Option Addr) (n c:Nat),k≤6∧i=.int .i64 k∧v=.slice x n c∧Hid ((levels.take k).flatten.length=n∧wr.ownsRow w.heap.size 9 1 (.slice x n c) n (svals (levels.take k).flatten)∧Fr [] w wr)) (fun _ _ i _=>6-(intOf i).toNat)
   case atStart=>exact⟨0,x1,0,c1,by omega,rfl,rfl,rfl,hown1,hf1⟩
   case round =>
    clear hown1 hf1
    obtain⟨k,x,n,c,hk,rfl,rfl,hq⟩:=hrel
    obtain⟨hn,hown,hf⟩:=hq.out
    clear hq
    by_cases hlt2:k<6
    ·obtain⟨l,hl⟩:∃l,levels[k]? = some l:=⟨levels[k]'(by simpa[levels]using hlt2),by simp[levels,hlt2]⟩
     obtain⟨b,c2,k1,k2,k3,k4⟩:=hL k l hl
     have hn2:=flat_succ k l hl
     have hfl:=flat_succ' k l hl
     have hb:=flat_le k
     have hb2:=flat_le (k+1)
     rw[hn2]at hb2
     rw[hn]at hb hb2 hn2
     have k1':=hf.cell k1 (by simp)
     have hgr:=hf.lt hgw
     have hcs:∀j u,(svals l)[j]? = some u→wr.cell? ((⟨b,0,none⟩:Addr).add j)=some u:=fun j u hj=>by
      rw[add0]
      have hj':j<l.length:=by have:=(List.getElem?_eq_some_iff.1 hj).1;simpa[svals]using this
      rw[hf.cell (k4 j hj') (by simp)]
      simp[svals,hj']at hj
      rw[←hj];simp[List.getD,hj']
     have hsz:=hf.size
     have HN:=Lib.hid hn2;have HL:=Lib.hid hfl;have HC:=Lib.hid hcs;have HNN:=Lib.hid hn
     clear hn2 hfl hl k4 hcs hn
     go_wp2_with (at_builtin;refine wpList_append_own _ rfl _ _ 67 rfl w.heap.size 9 i0 (.string ⟨#[]⟩) 1 16 Tryz.underlying67 hi hz0 hz1 hz2 rfl (by decide) _ n (svals (levels.take k).flatten) rfl hown ⟨b,0,none⟩ l.length c2 (svals l) rfl (by simp[svals]) HC.out (by simp[svals,Value.oneCell']) (by simp[maxLen];omega) (by omega) hsz ?_;intro v' w2 hown2 hg2 _)
     go_roundw
     case rel =>
      have hv2:∃x' c',v'=.slice x' (n+l.length) c':=by
       rcases hown2.2 with⟨rfl,h0⟩|⟨g',cap,cur,rfl,_⟩
       ·exact⟨none,0,by rw[h0]⟩
       ·exact⟨_,_,rfl⟩
      obtain⟨x',c',rfl⟩:=hv2
      refine⟨k+1,x',n+l.length,c',by omega,by go_num,rfl,HN.out,?_,hf.grown hg2 (fun j e=>.inr (hown.lt j e).1)⟩
      rw[HL.out,svals_append];exact hown2
     case measure=>simp[intOf];omega
    ·obtain rfl:k=6:=by omega
     have h11:(levels.take 6).flatten.length=11:=by decide
     rw[h11]at hn
     subst hn
     go_wp2
     go_ret
     refine⟨x,c,rfl,?_,hf⟩
     have:levels.take 6=levels:=rfl
     rw[this]at hown
     exact hown
theorem binaries_any (w:World):Calls Tryz.prog 219 #[] w fun e w'=>∃x n c,e=.returned (.slice x n c)∧Fr [] w w'∧StrSlice w' (.slice x n c) Ck.binaries:=by
 obtain⟨i0,hi,hz0,hz1,hz2⟩:=info_parts Tryz.infoStr
 go_enter Tryz.func219,Tryz.ntmps219
 go_wp2_with (first|(go_at_call 261;refine(levels_any _).mono ?_;rintro e w1 ⟨g,rfl,hf1,hL⟩)|(go_at_call 260;refine(concat_any _ _ g hL).mono ?_;rintro e w2 ⟨x,c,rfl,hown,hf2⟩)|(at_builtin;refine wpList_append_lies _ rfl _ _ 67 rfl w1.heap.size 9 i0 (.string ⟨#[]⟩) 1 16 Tryz.underlying67 hi hz0 hz1 hz2 rfl (by decide) _ 11 (svals levels.flatten) rfl (ownsRow_fr hown ((Fr.refl [] _).alloc _) (by simp)) ⟨w2.heap.size,0,none⟩ 6 6 (svals [[61,61],[33,61],[60],[60,61],[62],[62,61]]) rfl (by simp[svals]) (World.news_of_block (Blk.new _ _ _)) (by simp[svals,Value.oneCell']) (by omega) (by simp[maxLen]) (by omega) (by have:=hf2.size;simp;omega) _ rfl ?_;intro g' cap' w3 hown3 hg3 hat3 hlt3))
 go_ret
 refine⟨_,_,_,rfl,((hf1.trans hf2).alloc _).grown hg3 (fun j e=>.inr (by have:=(hown.lt j e).1;have:=hf1.size;omega)),.inr ⟨g',cap',rfl,hlt3,fun j hj=>?_⟩⟩
 have hb:(svals Ck.binaries)[j]? = some (.string ⟨(Ck.binaries.getD j []).toArray⟩):=by simp[svals,hj]
 have:=hown3.cells (g:=g') rfl j _ hb
 rw[add0]at this
 exact this
theorem bvals_append (a b:Bytes):bvals (a++b)=bvals a++bvals b:=by simp[bvals]
theorem quote_take (s:Bytes) (k:Nat) (h:k<s.length):(s.take (k+1)).flatMap quote1=(s.take k).flatMap quote1++quote1 s[k]:=by
 rw[List.take_succ_eq_append_getElem h,List.flatMap_append];simp
theorem quote_lenT (s:Bytes) (k:Nat):((s.take k).flatMap quote1).length≤4*s.length:=by
 have:=quote_len (s.take k)
 simp only[quote,List.length_cons,List.length_append,List.length_nil,List.length_take]at this
 omega
theorem quote1_plain {c:UInt8} (h1:(c==34)=false) (h2:(c==92)=false) (h3:(c==10)=false) (h4:32≤(c.toNat:Int)) (h5:(c.toNat:Int)≤126):quote1 c=[c]:=by
 unfold quote1
 have e1:Nat.blt c.toNat 32=false:=by
  cases h:Nat.blt c.toNat 32
  ·rfl
  ·have:c.toNat<32:=by simpa using h
   omega
 have e2:Nat.blt 126 c.toNat=false:=by
  cases h:Nat.blt 126 c.toNat
  ·rfl
  ·have:126<c.toNat:=by simpa using h
   omega
 simp[h1,h2,h3,e1,e2]
theorem and15 (n:Nat) (h:n<256):bits BinOp.and IntKind.u8 (n:Int) 15=(n:Int)%16:=by
 have:∀m:Fin 256,bits BinOp.and IntKind.u8 (m.1:Int) 15=(m.1:Int)%16:=by decide
 exact this ⟨n,h⟩
theorem hexG (n:Nat) (h:n<16):([48,49,50,51,52,53,54,55,56,57,97,98,99,100,101,102]:Bytes)[n]'(by simpa using h)=hexc n:=by
 have:∀m:Fin 16,([48,49,50,51,52,53,54,55,56,57,97,98,99,100,101,102]:Bytes)[m.1]=hexc m.1:=by decide
 exact this ⟨n,h⟩
theorem quote_round {s:Bytes} {w wr w2:World} {k n:Nat} {q:Bytes} {x:Option Addr} {c:Nat} {v':Value} (hk:k+1≤s.length) (hn:(34::(s.take k).flatMap quote1).length=n) (ht:(s.take (k+1)).flatMap quote1=(s.take k).flatMap quote1++quote1 (s[k]'(by omega))) (hq:quote1 (s[k]'(by omega))=q)
  {o:Obj} (hown:wr.ownsRow w.heap.size 5 1 (.slice x n c) n (bvals (34::(s.take k).flatMap quote1))) (hown2:w2.ownsRow w.heap.size 5 1 v' (n+q.length) (bvals (34::(s.take k).flatMap quote1)++bvals q)) (hg2:(wr.alloc o).grownBy w2 (Value.slice x n c).ownBlock) (hf:Fr [] w wr) :
  ∃(x:Option Addr) (n c:Nat),k+1≤s.length∧(Value.int .i64 ((k:Int)+1))=.int .i64 ((k+1:Nat):Int)∧v'=.slice x n c∧Hid ((34::(s.take (k+1)).flatMap quote1).length=n∧w2.ownsRow w.heap.size 5 1 (.slice x n c) n (bvals (34::(s.take (k+1)).flatMap quote1))∧Fr [] w w2):=by
 have hv:∃x' c',v'=.slice x' (n+q.length) c':=by
  rcases hown2.2 with⟨rfl,h0⟩|⟨g',cap,cur,rfl,_⟩
  ·exact⟨none,0,by rw[h0]⟩
  ·exact⟨_,_,rfl⟩
 obtain⟨x',c',rfl⟩:=hv
 refine⟨x',n+q.length,c',hk,rfl,rfl,?_,?_,?_⟩
 ·rw[ht,hq,←List.cons_append,List.length_append,hn]
 ·rw[ht,hq,←List.cons_append,bvals_append];exact hown2
 ·exact(hf.alloc o).grown hg2 (fun j e=>.inr (hown.lt j e).1)
theorem quote_any (s:Bytes) (w:World) (hs:s.length≤1099511627776):Calls Tryz.prog 222 #[.string ⟨s.toArray⟩] w fun e w'=>e=.returned (.string ⟨(quote s).toArray⟩)∧Fr [] w w':=by
 obtain⟨i0,hI,hz0,hz1,hz2⟩:=info_parts Tryz.infoU8
 have HS:Hid (s.length≤1099511627776):=hs
 have hs':(s.length:Int)≤9223372036854775807:=by omega
 clear hs
 go_enter Tryz.func222,Tryz.ntmps222
 go_wp2
 go_loopw [3,4,5,9] (fun v _i _c i wr=>∃(k:Nat) (x:Option Addr) (n c:Nat),k≤s.length∧i=.int .i64 k∧v=.slice x n c∧Hid ((34::(s.take k).flatMap quote1).length=n∧wr.ownsRow w.heap.size 5 1 (.slice x n c) n (bvals (34::(s.take k).flatMap quote1))∧Fr [] w wr)) (fun _ _ _ i _=>s.length-(intOf i).toNat)
 case atStart=>exact⟨0,_,1,1,by omega,rfl,rfl,rfl,⟨rfl,.inr ⟨w.heap.size,1,#[.int .u8 34],rfl,Nat.le_refl _,Blk.new w _ _,by omega,by simp[maxLen],rfl,rfl⟩⟩,(Fr.refl _ _).alloc _⟩
 case round =>
  obtain⟨k,x,n,c,hk,rfl,rfl,hq⟩:=hrel
  obtain⟨hn,hown,hf⟩:=hq.out
  clear hq
  have HN:=Lib.hid hn
  have hsz:=hf.size
  have hB0:n+4≤4398046511114:=by have:=quote_lenT s k;have:=HS.out;rw[List.length_cons]at hn;omega
  have HB1:Hid (n+4≤maxLen):=by show _≤_;simp[maxLen];omega
  have HB2:Hid ((n+4)*1≤140737488355328):=by show _≤_;omega
  clear hn hB0
  by_cases hlt:k<s.length
  ·have HT:=Lib.hid (quote_take s k hlt)
   have hk1:k+1≤s.length:=hlt
   cases t34:((s[k].toNat:Int)==34)
   rotate_left
   ·go_wp2_with (at_builtin;refine wpList_append_own _ rfl _ _ 42 rfl w.heap.size 5 i0 (.int .u8 0) 1 1 Tryz.underlying42 hI hz0 hz1 hz2 rfl (by decide) _ n (bvals (34::(s.take k).flatMap quote1)) rfl (ownsRow_fr hown ((Fr.refl [] _).alloc _) (by simp)) ⟨wr.heap.size,0,none⟩ 2 2 (bvals [92,s[k]]) rfl rfl (World.news_of_block (Blk.new _ _ _)) (by simp[bvals,Value.oneCell']) (Nat.le_trans (by omega) HB1.out) (Nat.le_trans (by omega) HB2.out) (by simp;omega) ?_;intro v' w2 hown2 hg2 _)
    go_roundw
    case rel=>exact⟨k+1,quote_round hk1 HN.out HT.out (q:=[92,s[k]]) (by rw[u8b _ 34 34 rfl]at t34;simp[quote1,t34]) hown hown2 hg2 hf⟩
    case measure=>simp[intOf];omega
   cases t92:((s[k].toNat:Int)==92)
   rotate_left
   ·go_wp2_with (at_builtin;refine wpList_append_own _ rfl _ _ 42 rfl w.heap.size 5 i0 (.int .u8 0) 1 1 Tryz.underlying42 hI hz0 hz1 hz2 rfl (by decide) _ n (bvals (34::(s.take k).flatMap quote1)) rfl (ownsRow_fr hown ((Fr.refl [] _).alloc _) (by simp)) ⟨wr.heap.size,0,none⟩ 2 2 (bvals [92,s[k]]) rfl rfl (World.news_of_block (Blk.new _ _ _)) (by simp[bvals,Value.oneCell']) (Nat.le_trans (by omega) HB1.out) (Nat.le_trans (by omega) HB2.out) (by simp;omega) ?_;intro v' w2 hown2 hg2 _)
    go_roundw
    case rel=>exact⟨k+1,quote_round hk1 HN.out HT.out (q:=[92,s[k]]) (by rw[u8b _ 92 92 rfl]at t92;simp[quote1,t92]) hown hown2 hg2 hf⟩
    case measure=>simp[intOf];omega
   cases t10:((s[k].toNat:Int)==10)
   rotate_left
   ·go_wp2_with (at_builtin;refine wpList_append_own _ rfl _ _ 42 rfl w.heap.size 5 i0 (.int .u8 0) 1 1 Tryz.underlying42 hI hz0 hz1 hz2 rfl (by decide) _ n (bvals (34::(s.take k).flatMap quote1)) rfl (ownsRow_fr hown ((Fr.refl [] _).alloc _) (by simp)) ⟨wr.heap.size,0,none⟩ 2 2 (bvals [92,110]) rfl rfl (World.news_of_block (Blk.new _ _ _)) (by simp[bvals,Value.oneCell']) (Nat.le_trans (by omega) HB1.out) (Nat.le_trans (by omega) HB2.out) (by simp;omega) ?_;intro v' w2 hown2 hg2 _)
    go_roundw
    case rel=>exact⟨k+1,quote_round hk1 HN.out HT.out (q:=[92,110]) (by rw[u8b _ 34 34 rfl]at t34;rw[u8b _ 92 92 rfl]at t92;rw[u8b _ 10 10 rfl]at t10;simp[quote1,t34,t92,t10]) hown hown2 hg2 hf⟩
    case measure=>simp[intOf];omega
   by_cases hin:32≤(s[k].toNat:Int)∧(s[k].toNat:Int)≤126
   ·obtain⟨h32,h126⟩:=hin
    ·go_wp2_with (at_builtin;refine wpList_append_own _ rfl _ _ 42 rfl w.heap.size 5 i0 (.int .u8 0) 1 1 Tryz.underlying42 hI hz0 hz1 hz2 rfl (by decide) _ n (bvals (34::(s.take k).flatMap quote1)) rfl (ownsRow_fr hown ((Fr.refl [] _).alloc _) (by simp)) ⟨wr.heap.size,0,none⟩ 1 1 (bvals [s[k]]) rfl rfl (World.news_of_block (Blk.new _ _ _)) (by simp[bvals,Value.oneCell']) (Nat.le_trans (by omega) HB1.out) (Nat.le_trans (by omega) HB2.out) (by simp;omega) ?_;intro v' w2 hown2 hg2 _)
     go_roundw
     case rel=>exact⟨k+1,quote_round hk1 HN.out HT.out (q:=[s[k]]) (by rw[u8b _ 34 34 rfl]at t34;rw[u8b _ 92 92 rfl]at t92;rw[u8b _ 10 10 rfl]at t10;exact quote1_plain t34 t92 t10 h32 h126) hown hown2 hg2 hf⟩
     case measure=>simp[intOf];omega
   ·have hout:(s[k].toNat:Int)<32∨126<(s[k].toNat:Int):=by omega
    clear hin
    have h256:s[k].toNat<256:=UInt8.toNat_lt _
    have hq1:s[k].toNat/16<16:=by omega
    have hq2:s[k].toNat%16<16:=by omega
    have eq1:((s[k].toNat:Int)/16).toNat=s[k].toNat/16:=by omega
    have eq2:((s[k].toNat:Int)%16).toNat=s[k].toNat%16:=by omega
    have hqq:quote1 s[k]=[92,120,hexc (s[k].toNat/16),hexc (s[k].toNat%16)]:=by
     rw[u8b _ 34 34 rfl]at t34;rw[u8b _ 92 92 rfl]at t92;rw[u8b _ 10 10 rfl]at t10
     unfold quote1
     have e3:(Nat.blt s[k].toNat 32||Nat.blt 126 s[k].toNat)=true:=by simp;omega
     simp only[t34,t92,t10,e3];simp
    have HQ:=Lib.hid hqq
    have E1:=Lib.hid eq1;have E2:=Lib.hid eq2
    clear hqq eq1 eq2
    rcases hout with h32|h126
    ·go_wp2
     have hS:(fun _:World=>True) wr.drew:=trivial
     refine wp_region_held (S:=fun _:World=>True) (by kernel_rfl) ?_
     refine tk 0 (.slice x n c) rfl hS (fun X hX=>?_) ?_
     ·go_simp
     simp only[Act.put,acts]
     refine tk 1 (.int .u8 s[k].toNat) rfl hS (fun X hX=>?_) ?_
     ·go_simp
     simp only[Act.put,acts]
     refine tk 2 (.int .u8 ((s[k].toNat/16:Nat):Int)) rfl hS (fun X hX=>?_) ?_
     ·go_simp
     simp only[Act.put,acts]
     refine tk 4 (.int .u8 s[k].toNat) rfl hS (fun X hX=>?_) ?_
     ·go_simp
     simp only[Act.put,acts]
     refine tk 5 (.int .u8 ((s[k].toNat%16:Nat):Int)) rfl hS (fun X hX=>?_) ?_
     ·go_simp;exact and15 _ (UInt8.toNat_lt _)
     simp only[Act.put,acts]
     refine tk 3 (.int .u8 (hexc (s[k].toNat/16)).toNat) rfl hS (fun X hX=>?_) ?_
     ·go_simp;rw[dif_pos ⟨by omega,by omega⟩];simp only[Result.andThen];simp only[E1.out,hexG _ hq1]
     simp only[Act.put,acts]
     refine tk 6 (.int .u8 (hexc (s[k].toNat%16)).toNat) rfl hS (fun X hX=>?_) ?_
     ·go_simp;rw[dif_pos ⟨by omega,by omega⟩];simp only[Result.andThen];simp only[E2.out,hexG _ hq2]
     simp only[Act.put,acts]
     refine wpAnyH_all (rs:=[7]) (by kernel_rfl) (by simp) ?_
     intro i hi
     obtain rfl:i=7:=by simpa using hi
     refine wpOp_step rfl (fun K hK=>?_)
     rw[if_pos (by rfl)]
     go_simp
     refine hK _ _ ⟨trivial,?_⟩
     clear hK K
     refine wpAnyH_all (rs:=[8]) (by kernel_rfl) (by simp) ?_
     intro i hi
     obtain rfl:i=8:=by simpa using hi
     refine wpOp_step rfl (fun K hK=>?_)
     rw[if_pos (by rfl)]
     refine wp_append_own _ (.tmp 43) (.tmp 50) 42 rfl w.heap.size 5 i0 (.int .u8 0) 1 1 Tryz.underlying42 hI hz0 hz1 hz2 rfl (by decide) _ n (bvals (34::(s.take k).flatMap quote1)) rfl (ownsRow_fr hown (((Fr.refl [] _).alloc _).drew) (by simp)) ⟨wr.heap.size,0,none⟩ 4 4 (bvals [92,120,hexc (s[k].toNat/16),hexc (s[k].toNat%16)]) rfl rfl (World.news_of_block ((Blk.new wr _ _).drew)) (by simp[bvals,Value.oneCell']) (Nat.le_trans (by omega) HB1.out) (Nat.le_trans (by omega) HB2.out) (by simp;omega) ?_
     intro v' w2 hown2 hg2 _
     refine hK _ _ ⟨trivial,?_⟩
     clear hK K
     refine wpAnyH_all (rs:=[9]) (by kernel_rfl) (by simp) ?_
     intro i hi
     obtain rfl:i=9:=by simpa using hi
     refine wpOp_step rfl (fun K hK=>?_)
     rw[if_pos (by rfl)]
     go_simp
     refine hK _ _ ⟨trivial,wpAnyH_done (by kernel_rfl) ?_ _⟩
     clear hK K
     go_wp2
     go_roundw
     case rel=>exact⟨k+1,quote_round hk1 HN.out HT.out (q:=[92,120,hexc (s[k].toNat/16),hexc (s[k].toNat%16)]) HQ.out hown hown2 (grown_drew hg2) hf⟩
     case measure=>simp[intOf];omega
    ·go_wp2
     have hS:(fun _:World=>True) wr.drew:=trivial
     refine wp_region_held (S:=fun _:World=>True) (by kernel_rfl) ?_
     refine tk 0 (.slice x n c) rfl hS (fun X hX=>?_) ?_
     ·go_simp
     simp only[Act.put,acts]
     refine tk 1 (.int .u8 s[k].toNat) rfl hS (fun X hX=>?_) ?_
     ·go_simp
     simp only[Act.put,acts]
     refine tk 2 (.int .u8 ((s[k].toNat/16:Nat):Int)) rfl hS (fun X hX=>?_) ?_
     ·go_simp
     simp only[Act.put,acts]
     refine tk 4 (.int .u8 s[k].toNat) rfl hS (fun X hX=>?_) ?_
     ·go_simp
     simp only[Act.put,acts]
     refine tk 5 (.int .u8 ((s[k].toNat%16:Nat):Int)) rfl hS (fun X hX=>?_) ?_
     ·go_simp;exact and15 _ (UInt8.toNat_lt _)
     simp only[Act.put,acts]
     refine tk 3 (.int .u8 (hexc (s[k].toNat/16)).toNat) rfl hS (fun X hX=>?_) ?_
     ·go_simp;rw[dif_pos ⟨by omega,by omega⟩];simp only[Result.andThen];simp only[E1.out,hexG _ hq1]
     simp only[Act.put,acts]
     refine tk 6 (.int .u8 (hexc (s[k].toNat%16)).toNat) rfl hS (fun X hX=>?_) ?_
     ·go_simp;rw[dif_pos ⟨by omega,by omega⟩];simp only[Result.andThen];simp only[E2.out,hexG _ hq2]
     simp only[Act.put,acts]
     refine wpAnyH_all (rs:=[7]) (by kernel_rfl) (by simp) ?_
     intro i hi
     obtain rfl:i=7:=by simpa using hi
     refine wpOp_step rfl (fun K hK=>?_)
     rw[if_pos (by rfl)]
     go_simp
     refine hK _ _ ⟨trivial,?_⟩
     clear hK K
     refine wpAnyH_all (rs:=[8]) (by kernel_rfl) (by simp) ?_
     intro i hi
     obtain rfl:i=8:=by simpa using hi
     refine wpOp_step rfl (fun K hK=>?_)
     rw[if_pos (by rfl)]
     refine wp_append_own _ (.tmp 43) (.tmp 50) 42 rfl w.heap.size 5 i0 (.int .u8 0) 1 1 Tryz.underlying42 hI hz0 hz1 hz2 rfl (by decide) _ n (bvals (34::(s.take k).flatMap quote1)) rfl (ownsRow_fr hown (((Fr.refl [] _).alloc _).drew) (by simp)) ⟨wr.heap.size,0,none⟩ 4 4 (bvals [92,120,hexc (s[k].toNat/16),hexc (s[k].toNat%16)]) rfl rfl (World.news_of_block ((Blk.new wr _ _).drew)) (by simp[bvals,Value.oneCell']) (Nat.le_trans (by omega) HB1.out) (Nat.le_trans (by omega) HB2.out) (by simp;omega) ?_
     intro v' w2 hown2 hg2 _
     refine hK _ _ ⟨trivial,?_⟩
     clear hK K
     refine wpAnyH_all (rs:=[9]) (by kernel_rfl) (by simp) ?_
     intro i hi
     obtain rfl:i=9:=by simpa using hi
     refine wpOp_step rfl (fun K hK=>?_)
     rw[if_pos (by rfl)]
     go_simp
     refine hK _ _ ⟨trivial,wpAnyH_done (by kernel_rfl) ?_ _⟩
     clear hK K
     go_wp2
     go_roundw
     case rel=>exact⟨k+1,quote_round hk1 HN.out HT.out (q:=[92,120,hexc (s[k].toNat/16),hexc (s[k].toNat%16)]) HQ.out hown hown2 (grown_drew hg2) hf⟩
     case measure=>simp[intOf];omega
  ·obtain rfl:k=s.length:=by omega
   have hconv:∀(w2:World) (v':Value),w2.ownsRow w.heap.size 5 1 v' (n+1) (bvals (34::(s.take s.length).flatMap quote1)++bvals [34])→(convert 42 9 v').run Tryz.prog w2=.ok (.string ⟨(quote s).toArray⟩) w2:=fun w2 v' h=>by
    have e:bvals (34::(s.take s.length).flatMap quote1)++bvals [34]=bvals (quote s):=by rw[←bvals_append,List.take_length];rfl
    have el:n+1=(quote s).length:=by
     have h1:=HN.out
     rw[List.take_length]at h1
     rw[←h1];simp[quote]
    rw[e,el]at h
    exact owned_string Tryz.underlying42 Tryz.underlying5 Tryz.underlying9 h
   go_wp2_with (at_builtin;refine wpList_append_lies _ rfl _ _ 42 rfl w.heap.size 5 i0 (.int .u8 0) 1 1 Tryz.underlying42 hI hz0 hz1 hz2 rfl (by decide) _ n (bvals (34::(s.take s.length).flatMap quote1)) rfl (ownsRow_fr hown ((Fr.refl [] _).alloc _) (by simp)) ⟨wr.heap.size,0,none⟩ 1 1 (bvals [34]) rfl rfl (World.news_of_block (Blk.new _ _ _)) (by simp[bvals,Value.oneCell']) (by omega) (Nat.le_trans (by omega) HB1.out) (Nat.le_trans (by omega) HB2.out) (by simp;omega) _ rfl ?_;intro g' cap' w2 hown2 hg2 hat2 hlt2;have HC:=hconv _ _ hown2)
   go_ret
   exact⟨rfl,(hf.alloc _).grown hg2 (fun j e=>.inr (hown.lt j e).1)⟩
theorem bits_mask11 (x:Nat) (hx:x<18446744073709551616):bits BinOp.and IntKind.u64 (x:Int) 2047=((x%2048:Nat):Int):=by
 unfold bits
 have h3:x &&& 2047=x%2048:=Nat.and_two_pow_sub_one_eq_mod x 11
 have h4:(BitVec.ofInt IntKind.u64.bits (x:Int) &&& BitVec.ofInt IntKind.u64.bits 2047).toNat=x%2048:=by
  rw[BitVec.toNat_and]
  simp only[IntKind.bits,BitVec.toNat_ofInt]
  have g1:((x:Int)%((2 ^ 64:Nat):Int)).toNat=x:=by omega
  have g2:((2047:Int)%((2 ^ 64:Nat):Int)).toNat=2047:=by omega
  rw[g1,g2,h3]
 simp only[h4]
 exact wrapU _ (by have:=Nat.mod_lt x (y:=2048) (by decide);omega)
theorem hexq_at:∀q:Nat,q<16→(([48,49,50,51,52,53,54,55,56,57,97,98,99,100,101,102]:Bytes).drop q).take 1=[hexc q]:=by decide
structure fr_inv (base:Bytes) (f0 m:Nat) (l:Bytes) (q:Nat):Prop where
 eq:l++fracT q m=base++fracT 14 f0
 q14:q≤14
 dvd:16 ^ (14-q) ∣ m
 len0:l.length+q≤base.length+14
 base:base.length≤20
theorem fr_start (base:Bytes) (f0:Nat) (h:base.length≤20):fr_inv base f0 f0 base 14:=⟨rfl,by omega,by simp,by omega,h⟩
theorem fr_inv.len {base:Bytes} {f0 m:Nat} {l:Bytes} {q:Nat} (h:fr_inv base f0 m l q):l.length≤40:=by have:=h.len0;have:=h.base;omega
theorem fr_inv.done {base:Bytes} {f0:Nat} {l:Bytes} {q:Nat} (h:fr_inv base f0 0 l q):l=base++fracT 14 f0:=by
 have:=h.eq
 cases q<;>simpa[fracT]using this
theorem fr_inv.step {base:Bytes} {f0 m:Nat} {l:Bytes} {q:Nat} (h:fr_inv base f0 m l q) (h0:m≠0) (hm:m<4503599627370496):fr_inv base f0 (m*16%4503599627370496) (l++[hexc (m/281474976710656)]) (q-1):=by
 have hj:14-q≤12:=by
  rcases Nat.lt_or_ge (14-q) 13 with h1|h1
  ·omega
  ·have h2:(16 ^ 13:Nat) ∣ m:=Nat.dvd_trans (Nat.pow_dvd_pow 16 h1) h.dvd
   have h3:=Nat.le_of_dvd (by omega) h2
   have:(16 ^ 13:Nat)=4503599627370496:=by decide
   omega
 obtain⟨q,rfl⟩:∃q',q=q'+1:=⟨q-1,by omega⟩
 have hq:=h.q14
 refine⟨?_,by omega,?_,?_,h.base⟩
 ·have h1:=h.eq
  have e:fracT (q+1) m=hexc (m/281474976710656)::fracT q (m*16%4503599627370496):=by
   have e48:(2:Nat) ^ 48=281474976710656:=by decide
   have e52:(2:Nat) ^ 52=4503599627370496:=by decide
   rw[fracT,if_neg (by simpa using h0),e48,e52]
  rw[e]at h1
  simpa using h1
 ·show 16 ^ (14-q) ∣ _
  have e:14-q=(14-(q+1))+1:=by omega
  rw[e]
  refine(Nat.dvd_mod_iff ?_).2 ?_
  ·have:(4503599627370496:Nat)=16 ^ 13:=by decide
   rw[this]
   exact Nat.pow_dvd_pow 16 (by omega)
  ·rw[Nat.pow_succ]
   exact Nat.mul_dvd_mul_right h.dvd 16
 ·have:=h.len0;simp;omega
theorem str_add (a b:Bytes):(⟨a.toArray⟩:ByteArray)++⟨b.toArray⟩=⟨(a++b).toArray⟩:=by
 apply ByteArray.ext
 simp[ByteArray.append]
def fsgn:Bool→Bytes
 | true=>[45]
 | false=>[]
def fdot:Bool→Bytes
 | true=>[46]
 | false=>[]
theorem float_nan (s:Bool) (B F E:Nat) (w:World) (hV:Vars w) (HB:Hid (B<18446744073709551616)) (hs:((B:Int)/9223372036854775808==1)=s) (hF:bits BinOp.and IntKind.u64 (B:Int) 4503599627370495=(F:Int)) (hE:bits BinOp.and IntKind.u64 ((B:Int)/4503599627370496) 2047=(E:Int)) (hE2:((E:Int)==2047)=true) (hEi:E=2047) (hF0:((F:Int) != 0)=true) (HT:Hid (floatT B=[110,97,110])) :
  Calls Tryz.prog 221 #[.int .u64 (B:Int)] w fun e w'=>e=.returned (.string ⟨(floatT B).toArray⟩)∧Fr [] w w':=by
 cases s
 all_goals
  go_enter Tryz.func221,Tryz.ntmps221
  subst hEi
  go_wp2
  go_ret
  exact⟨by rw[HT.out];first|rfl|(rw[←str_add];rfl),Fr.refl _ _⟩
theorem float_inf (s:Bool) (B F E:Nat) (w:World) (hV:Vars w) (HB:Hid (B<18446744073709551616)) (hs:((B:Int)/9223372036854775808==1)=s) (hF:bits BinOp.and IntKind.u64 (B:Int) 4503599627370495=(F:Int)) (hE:bits BinOp.and IntKind.u64 ((B:Int)/4503599627370496) 2047=(E:Int)) (hEi:E=2047) (hFi:F=0) (HT:Hid (floatT B=fsgn s++[105,110,102])) :
  Calls Tryz.prog 221 #[.int .u64 (B:Int)] w fun e w'=>e=.returned (.string ⟨(floatT B).toArray⟩)∧Fr [] w w':=by
 cases s
 all_goals
  go_enter Tryz.func221,Tryz.ntmps221
  subst hEi
  subst hFi
  go_wp2
  go_ret
  exact⟨by rw[HT.out];first|rfl|(rw[←str_add];rfl),Fr.refl _ _⟩
theorem float_zero (s:Bool) (B F E:Nat) (w:World) (hV:Vars w) (HB:Hid (B<18446744073709551616)) (hs:((B:Int)/9223372036854775808==1)=s) (hF:bits BinOp.and IntKind.u64 (B:Int) 4503599627370495=(F:Int)) (hE:bits BinOp.and IntKind.u64 ((B:Int)/4503599627370496) 2047=(E:Int)) (hEi:E=0) (hFi:F=0) (HT:Hid (floatT B=fsgn s++[48,120,48,112,43,48])) :
  Calls Tryz.prog 221 #[.int .u64 (B:Int)] w fun e w'=>e=.returned (.string ⟨(floatT B).toArray⟩)∧Fr [] w w':=by
 cases s
 all_goals
  go_enter Tryz.func221,Tryz.ntmps221
  subst hEi
  subst hFi
  go_wp2
  go_ret
  exact⟨by rw[HT.out];first|rfl|(rw[←str_add];rfl),Fr.refl _ _⟩
theorem float_norm (s z:Bool) (B F E:Nat) (w:World) (hV:Vars w) (HB:Hid (B<18446744073709551616)) (hs:((B:Int)/9223372036854775808==1)=s) (hF:bits BinOp.and IntKind.u64 (B:Int) 4503599627370495=(F:Int)) (hE:bits BinOp.and IntKind.u64 ((B:Int)/4503599627370496) 2047=(E:Int)) (hE1:((E:Int)==2047)=false) (hE0:((E:Int)==0)=false) (hEl:(E:Int)≤2047) (hFl:F<4503599627370496) (ee:Int) (hee:(E:Int)-1023=ee) (hF0:((F:Int) != 0)=z) (HT:Hid (floatT B=fsgn s++floatTail F ee)) :
  Calls Tryz.prog 221 #[.int .u64 (B:Int)] w fun e w'=>e=.returned (.string ⟨(floatT B).toArray⟩)∧Fr [] w w':=by
 obtain⟨bs,hbs⟩:∃bs,bs=fsgn s++[48,120,49]++fdot z:=⟨_,rfl⟩
 have hbl:bs.length≤20:=by rw[hbs];cases s<;>cases z<;>decide
 cases s<;>cases z
 all_goals
  go_enter Tryz.func221,Tryz.ntmps221
  have hfl:=hFl
  have hFz:=hF0
  simp only[bne_iff_ne,ne_eq,Int.natCast_eq_zero,bne_eq_false_iff_eq]at hFz
  have HFz:=Lib.hid hFz
  clear hFz
  go_wp2_with (fail)
  go_loop [4,7] (fun m' s'=>∃(m:Nat) (l:Bytes),m'=.int .u64 (m:Int)∧s'=.string ⟨l.toArray⟩∧m<4503599627370496∧Hid (∃q,fr_inv bs F m l q)) (fun _ s'=>match s' with | .string b=>100-b.size|_=>0)
  case atStart=>exact⟨F,_,rfl,by rw[hbs];rfl,hfl,14,fr_start _ _ hbl⟩
  case round =>
   obtain⟨m,l,rfl,rfl,hm,hq⟩:=hrel
   by_cases hm0:m=0
   ·subst hm0
    obtain⟨q,hqq⟩:=hq.out
    have hl:=hqq.done
    have HL:=Lib.hid hl
    have hll:l.length≤40:=hqq.len
    clear hl hqq hq
    have hdl:=decI_len ee (by rw[show(10:Nat) ^ 20=100000000000000000000 by decide];omega)
    rcases Int.lt_or_le ee 0 with hneg|hpos
    ·have hI:=numInt_any ee w hV (by omega) (by omega)
     go_wp2_with (go_at_call 220;refine hI.mono ?_;rintro e1 w1 ⟨rfl,hf⟩)
     all_goals try (exfalso;omega)
     go_ret
     refine⟨?_,hf⟩
     have hneg':¬0≤ee:=by omega
     rw[HT.out,HL.out,hbs]
     simp[str_add,floatTail,fsgn,fdot,hneg',HFz.out]
    ·have hI:=numInt_any ee w hV (by omega) (by omega)
     go_wp2_with (go_at_call 220;refine hI.mono ?_;rintro e1 w1 ⟨rfl,hf⟩)
     all_goals try (exfalso;omega)
     go_ret
     refine⟨?_,hf⟩
     rw[HT.out,HL.out,hbs]
     simp[str_add,floatTail,fsgn,fdot,hpos,HFz.out]
   ·have hne:((m:Int) != 0)=true:=by simpa using hm0
    obtain⟨dg,hdg⟩:∃dg:Nat,m/281474976710656=dg:=⟨_,rfl⟩
    have hdi:(m:Int)/281474976710656=(dg:Int):=by omega
    have hd16:(dg:Int)≤15:=by omega
    have hsh:bits BinOp.and IntKind.u64 ((m:Int)*16) 4503599627370495=((m*16%4503599627370496:Nat):Int):=by
     rw[show((m:Int)*16)=((m*16:Nat):Int)by omega];exact bits_mask _ (by omega)
    have hxx:=hexq_at dg (by omega)
    have hll:l.length≤40:=by obtain⟨q,h1⟩:=hq.out;exact h1.len
    go_wp2_with (fail)
    refine⟨⟨m*16%4503599627370496,l++[hexc dg],by simp,by rw[←str_add],Nat.mod_lt _ (by decide),?_⟩,?_⟩
    ·obtain⟨q,h1⟩:=hq.out
     have h2:=h1.step hm0 hm
     rw[hdg]at h2
     exact⟨q-1,h2⟩
    ·rw[str_add]
     simp[ByteArray.size];omega
theorem float_sub (s z:Bool) (B F E:Nat) (w:World) (hV:Vars w) (HB:Hid (B<18446744073709551616)) (hs:((B:Int)/9223372036854775808==1)=s) (hF:bits BinOp.and IntKind.u64 (B:Int) 4503599627370495=(F:Int)) (hE:bits BinOp.and IntKind.u64 ((B:Int)/4503599627370496) 2047=(E:Int)) (hEi:E=0) (hF0:((F:Int) != 0)=true) (hFl:F<4503599627370496) (up:Nat) (hup:(Lib.bitLen F:Int)=53-(up:Int)) (hu1:1≤up) (hu2:(up:Int)≤52) (f0:Nat) (hf0:F*2 ^ up%4503599627370496=f0) (hwr:F*2 ^ up<18446744073709551616) (ee:Int) (hee:1-(up:Int)-1023=ee) (hF2:((f0:Int) != 0)=z) (HT:Hid (floatT B=fsgn s++floatTail f0 ee)) :
  Calls Tryz.prog 221 #[.int .u64 (B:Int)] w fun e w'=>e=.returned (.string ⟨(floatT B).toArray⟩)∧Fr [] w w':=by
 obtain⟨bs,hbs⟩:∃bs,bs=fsgn s++[48,120,49]++fdot z:=⟨_,rfl⟩
 have hbl:bs.length≤20:=by rw[hbs];cases s<;>cases z<;>decide
 cases s<;>cases z
 all_goals
  go_enter Tryz.func221,Tryz.ntmps221
  subst hEi
  have hFF:((F:Int)==0)=false:=by simpa using hF0
  have hfl:f0<4503599627370496:=by rw[←hf0];exact Nat.mod_lt _ (by decide)
  have hFz:=hF2
  simp only[bne_iff_ne,ne_eq,Int.natCast_eq_zero,bne_eq_false_iff_eq]at hFz
  have HFz:=Lib.hid hFz
  clear hFz
  have hlz:=Tryz.bits_LeadingZeros64 (F:Int) w (by omega) (by omega)
  rw[Int.toNat_natCast,hup,show(64:Int)-(53-(up:Int))=(up:Int)+11 by omega]at hlz
  have hmask:bits BinOp.and IntKind.u64 (IntKind.u64.wrap ((F:Int)*2 ^ up)) 4503599627370495=(f0:Int):=by
   rw[show(F:Int)*2 ^ up=((F*2 ^ up:Nat):Int)by simp,wrapU _ hwr,bits_mask _ hwr,hf0]
  clear hf0 hwr
  go_wp2_with (go_at_call 263;refine hlz.mono ?_;rintro e1 w1 ⟨rfl,rfl⟩)
  go_loop [4,7] (fun m' s'=>∃(m:Nat) (l:Bytes),m'=.int .u64 (m:Int)∧s'=.string ⟨l.toArray⟩∧m<4503599627370496∧Hid (∃q,fr_inv bs f0 m l q)) (fun _ s'=>match s' with | .string b=>100-b.size|_=>0)
  case atStart=>exact⟨f0,_,rfl,by rw[hbs];rfl,hfl,14,fr_start _ _ hbl⟩
  case round =>
   obtain⟨m,l,rfl,rfl,hm,hq⟩:=hrel
   by_cases hm0:m=0
   ·subst hm0
    obtain⟨q,hqq⟩:=hq.out
    have hl:=hqq.done
    have HL:=Lib.hid hl
    have hll:l.length≤40:=hqq.len
    clear hl hqq hq
    have hdl:=decI_len ee (by rw[show(10:Nat) ^ 20=100000000000000000000 by decide];omega)
    rcases Int.lt_or_le ee 0 with hneg|hpos
    ·have hI:=numInt_any ee w1 hV (by omega) (by omega)
     go_wp2_with (go_at_call 220;refine hI.mono ?_;rintro e1 w1 ⟨rfl,hf⟩)
     all_goals try (exfalso;omega)
     go_ret
     refine⟨?_,hf⟩
     have hneg':¬0≤ee:=by omega
     rw[HT.out,HL.out,hbs]
     simp[str_add,floatTail,fsgn,fdot,hneg',HFz.out]
    ·exfalso;omega
   ·have hne:((m:Int) != 0)=true:=by simpa using hm0
    obtain⟨dg,hdg⟩:∃dg:Nat,m/281474976710656=dg:=⟨_,rfl⟩
    have hdi:(m:Int)/281474976710656=(dg:Int):=by omega
    have hd16:(dg:Int)≤15:=by omega
    have hsh:bits BinOp.and IntKind.u64 ((m:Int)*16) 4503599627370495=((m*16%4503599627370496:Nat):Int):=by
     rw[show((m:Int)*16)=((m*16:Nat):Int)by omega];exact bits_mask _ (by omega)
    have hxx:=hexq_at dg (by omega)
    have hll:l.length≤40:=by obtain⟨q,h1⟩:=hq.out;exact h1.len
    go_wp2_with (fail)
    refine⟨⟨m*16%4503599627370496,l++[hexc dg],by simp,by rw[←str_add],Nat.mod_lt _ (by decide),?_⟩,?_⟩
    ·obtain⟨q,h1⟩:=hq.out
     have h2:=h1.step hm0 hm
     rw[hdg]at h2
     exact⟨q-1,h2⟩
    ·rw[str_add]
     simp[ByteArray.size];omega
theorem bitLen_log (F:Nat) (h0:F≠0) (h:F<4503599627370496):Lib.bitLen F=F.log2+1∧F.log2≤51∧F*2 ^ (52-F.log2)<18446744073709551616:=by
 have h1:=bitLen_spec F (by omega) (by omega)
 have h2:F.log2<52:=(Nat.log2_lt h0).2 (by have:(2:Nat) ^ 52=4503599627370496:=(by decide);omega)
 refine⟨h1,by omega,?_⟩
 have h3:F<2 ^ (F.log2+1):=Nat.lt_log2_self
 have h4:F*2 ^ (52-F.log2)<2 ^ (F.log2+1)*2 ^ (52-F.log2):=Nat.mul_lt_mul_of_pos_right h3 (Nat.pos_of_ne_zero (by simp))
 rw[←Nat.pow_add,show F.log2+1+(52-F.log2)=53 by omega]at h4
 exact Nat.lt_of_lt_of_le h4 (by decide)
theorem numFloat_any (b:Int) (w:World) (hV:Vars w) (h0:0≤b) (h1:b<18446744073709551616):Calls Tryz.prog 221 #[.int .u64 b] w fun e w'=>e=.returned (.string ⟨(floatT b.toNat).toArray⟩)∧Fr [] w w':=by
 obtain⟨B,rfl⟩:∃B:Nat,b=(B:Int):=⟨b.toNat,by omega⟩
 have hB:B<18446744073709551616:=by omega
 rw[Int.toNat_natCast]
 clear h0 h1
 obtain⟨F,hFd⟩:∃F,B%4503599627370496=F:=⟨_,rfl⟩
 obtain⟨E,hEd⟩:∃E,B/4503599627370496%2048=E:=⟨_,rfl⟩
 have hFl:F<4503599627370496:=by rw[←hFd];exact Nat.mod_lt _ (by decide)
 have hEl:E<2048:=by rw[←hEd];exact Nat.mod_lt _ (by decide)
 have hF:bits BinOp.and IntKind.u64 (B:Int) 4503599627370495=(F:Int):=by rw[bits_mask B hB,hFd]
 have hE:bits BinOp.and IntKind.u64 ((B:Int)/4503599627370496) 2047=(E:Int):=by
  rw[show(B:Int)/4503599627370496=((B/4503599627370496:Nat):Int)by simp,bits_mask11 _ (by omega),hEd]
 have e63:(2:Nat) ^ 63=9223372036854775808:=by decide
 have e52:(2:Nat) ^ 52=4503599627370496:=by decide
 have hT:∀sg:Bytes,(if (B/9223372036854775808==1)=true then[45] else[])=sg→floatT B=if (E==2047&&F != 0)=true then[110,97,110]else if (E==2047)=true then sg++[105,110,102]else if (E==0&&F==0)=true then sg++[48,120,48,112,43,48]else if (E==0)=true then sg++floatTail (F*2 ^ (52-F.log2)%4503599627370496) (1-((52-F.log2:Nat):Int)-1023)else sg++floatTail F ((E:Int)-1023):=by
  intro sg hsg
  unfold floatT
  simp only[e63,e52,hFd,hEd]
  rw[hsg]
 obtain⟨s,hs⟩:∃s,((B:Int)/9223372036854775808==1)=s:=⟨_,rfl⟩
 have hT:=hT (fsgn s) (by
  have h9:(B/9223372036854775808==1)=s:=by
   rw[←hs]
   rw[Bool.eq_iff_iff];simp only[beq_iff_eq];omega
  rw[h9];cases s<;>rfl)
 by_cases hE1:E=2047
 ·by_cases hF0:F=0
  ·exact float_inf s B F E w hV (Lib.hid hB) hs hF hE hE1 hF0 (Lib.hid (by rw[hT];simp[hE1,hF0]))
  ·exact float_nan s B F E w hV (Lib.hid hB) hs hF hE (by simp[hE1]) hE1 (by simpa using hF0) (Lib.hid (by rw[hT];simp[hE1,hF0]))
 by_cases hE0:E=0
 ·by_cases hF0:F=0
  ·exact float_zero s B F E w hV (Lib.hid hB) hs hF hE hE0 hF0 (Lib.hid (by rw[hT];simp[hE0,hF0]))
  ·obtain⟨g1,g2,g3⟩:=bitLen_log F hF0 hFl
   exact float_sub s _ B F E w hV (Lib.hid hB) hs hF hE hE0 (by simpa using hF0) hFl (52-F.log2) (by omega) (by omega) (by omega) _ rfl g3 _ rfl rfl (Lib.hid (by rw[hT];simp[hE0,hF0]))
 ·have q1:((E:Int)==2047)=false:=by rw[beq_eq_false_iff_ne];omega
  have q2:((E:Int)==0)=false:=by rw[beq_eq_false_iff_ne];omega
  exact float_norm s _ B F E w hV (Lib.hid hB) hs hF hE q1 q2 (by omega) hFl _ rfl rfl (Lib.hid (by rw[hT];simp[hE0,hE1]))
end Go.Proofs.YtoomapkcoibmhaaGreatDoor
end
