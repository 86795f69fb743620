/- A part of the proof. -/
import Derived.Lib.AppendZeros
import Derived.Lib.ItoaNum
import Derived.Outline
import Derived.Test.YtoomapkcoibmhaaGreatDoorQ15
import Derived.Test.YtoomapkcoibmhaaGreatDoorQ21
set_option maxRecDepth 100000
set_option maxHeartbeats 12800000
set_option linter.all false
section
open Go Go.Proofs Go.RowKit Ck
namespace Ck
theorem LJ:∀(f n:Nat) (acc:Bytes),n<f→Gj f n acc=Lib.decDigits n++acc
 | 0,n,acc,h=>by omega
 | f+1,n,acc,h=>by
  unfold Gj;rw[Lib.decDigits];by_cases hn:n<10
  ·rw[if_pos hn,dif_pos hn];rfl
  ·rw[if_neg hn,dif_neg hn,LJ f (n/10) _ (by omega)];simp
theorem Pm (n:Nat):dec n=Lib.decDigits n:=by
 unfold dec;rw[LJ _ _ _ (by omega),List.append_nil]
theorem RF (i:Int):EF i=Lib.itoa i:=by
 unfold EF Lib.itoa;split
 ·rw[Pm]
 ·rw[Pm];congr 1;omega
end Ck
namespace Go.Proofs.YtoomapkcoibmhaaGreatDoor
theorem RG {S:List Nat} {a w:World} (h:Fr S a w) (os:Array Obj):Fr S a («Sort».grow w os) :=
 h.trans ⟨rfl,rfl,rfl,by simp[«Sort».grow],fun b hb _=>by simp[«Sort».grow,Array.getElem?_append_left hb]⟩
theorem qY (i:Int) (w:World) (hV:Vars w) (h0 : -9223372036854775808≤i) (h1:i≤9223372036854775807):Calls Tryz.prog 220 #[.int .i64 i] w fun e w'=>e=.returned (.string ⟨(EF i).toArray⟩)∧Fr [] w w':=by
 have hc:=Tryz.strconv_FormatInt_10 i h0 h1 w hV.facts.Tj;rw[←RF]at hc
 go_enter Tryz.func220,Tryz.ntmps220
 go_wp2_with (first|(go_at_call 262;refine hc.mono ?_;rintro e w1 ⟨rfl,k,os,rfl⟩))
 go_ret;refine⟨rfl,?_⟩;exact RG ((Fr.refl _ _).drewN _) _
theorem wpList_append_run {P:Program} {ops:Array Oper} {rest:List Oper} {o:Oper} {a:Act} {w w':World} {Q:Exit→Act→World→Prop} (hg:o.guard=none) (s x:Operand) (t u:TypeId)
  (ho:o.op=.call { callee:=.builtin .append,args:=#[s,x],argTypes:=#[t,u] }) {v y v':Value} (hs:a.eval s=v) (hx:a.eval x=y)
  (hrun:(Builtin.append_ #[t,u] o.type #[v,y]).run P w=.ok v' w') (hK:wpList P ops Q rest (a.put o.dst v') w'):wpList P ops Q (o::rest) a w :=
 wpList_plain hg fun _ hK'=>by
  unfold Oper.wp execOp;simp only[ho,resolve,invoke,builtin,Sem.run_bind,Sem.run_pure,Result.andThen_ok,List.map_toArray,List.map_cons,List.map_nil,hs,hx,hrun];exact hK' _ _ hK
theorem Pn (n:Nat) (w:World) (h0:0<n) (h1:n≤1000):Calls Tryz.prog 287 #[.slice none 0 0,.int .i64 n] w fun e w'=>∃x c,e=.returned (.slice x 0 c)∧w'.ownsRow w.heap.size 9 1 (.slice x 0 c) 0 []∧Fr [] w w':=by
 obtain⟨i0,hi,hz0,hz1,hz2⟩:=info_parts Tryz.infoStr
 have hrun:=Lib.run_append_nil_zeros (P:=Tryz.prog) w 67 3 67 9 i0 (.string ⟨#[]⟩) .i64 .i64 Tryz.underlying67 Tryz.underlying3 hi hz0 n h0 (by omega) (by omega) (by rw[hz2];omega);go_enter Tryz.func287,Tryz.ntmps287
 go_wp2_with (at_builtin;refine wpList_append_run rfl (.tmp 20) (.tmp 21) _ _ rfl rfl rfl hrun ?_)
 go_ret;refine⟨_,_,rfl,⟨rfl,.inr ⟨w.heap.size,_,_,rfl,Nat.le_refl _,au.new w _ _,Nat.zero_le _,grownCap_le_maxLen _ _ _ _ (by simp[maxLen];omega),?_,by simp⟩⟩,((Fr.refl _ _).alloc _).drew⟩
 have:=grownCap_ge w n 0 9
 simp[size_zeroCells];omega
theorem Az (k:Nat) (l:List Bytes) (h:levels[k]? = some l):(levels.take (k+1)).flatten=(levels.take k).flatten++l:=by
 rw[List.take_succ,h];simp
theorem DZ (k:Nat) (l:List Bytes) (h:levels[k]? = some l):(levels.take (k+1)).flatten.length=(levels.take k).flatten.length+l.length:=by
 rw[Az k l h,List.length_append]
theorem zo (k:Nat):(levels.take k).flatten.length≤11:=by
 match k with
 | 0|1|2|3|4|5=>decide
 | k+6=>rw[List.take_of_length_le (by simp[levels])];decide
theorem JV (w:World) (lo g:Nat) (h:ow w lo g):Calls Tryz.prog 260 #[.slice (some ⟨g,0,none⟩) 6 6] w fun e w'=>∃x c,e=.returned (.slice x 11 c)∧w'.ownsRow w.heap.size 9 1 (.slice x 11 c) 11 (cK levels.flatten)∧Fr [] w w':=by
 obtain⟨i0,hi,hz0,hz1,hz2⟩:=info_parts Tryz.infoStr
 obtain⟨_,hgw,hL⟩:=h
 go_enter Tryz.func260,Tryz.ntmps260;go_wp2
 go_loop [3,5,11] (fun sz _s i=>∃k:Nat,k≤6∧i=.int .i64 k∧sz=.int .i64 ((levels.take k).flatten.length:Nat)) (fun _ _ i=>6-(intOf i).toNat)
 case atStart=>exact⟨0,by omega,rfl,rfl⟩
 case round =>
  obtain⟨k,hk,rfl,rfl⟩:=hrel
  by_cases hlt:k<6
  ·obtain⟨l,hl⟩:∃l,levels[k]? = some l:=⟨levels[k]'(by simpa[levels]using hlt),by simp[levels,hlt]⟩
   obtain⟨b,c,k1,k2,k3,k4⟩:=hL k l hl
   obtain⟨n,hn⟩:∃n,Hid ((levels.take k).flatten.length=n):=⟨_,rfl⟩
   have hn2:=DZ k l hl;have hb:=zo k;have hb2:=zo (k+1);rw[hn2]at hb2
   rw[hn.out]at hb hb2 hn2 ⊢
   have HN:=Lib.hid hn2;clear hn2 hl k4;go_wp2
   go_round
   case rel=>exact⟨k+1,by omega,by go_num,by rw[HN.out];go_num⟩
   case measure=>simp[intOf];omega
  ·obtain rfl:k=6:=by omega
   have h11:(levels.take 6).flatten.length=11:=by decide
   rw[h11]
   go_wp2_with (first|(go_at_call 287;refine(Pn 11 _ (by omega) (by omega)).mono ?_;rintro e w1 ⟨x1,c1,rfl,hown1,hf1⟩))
   go_loopw [6,8,27] (fun v _s i wr=>∃(k:Nat) (x:Option Addr) (n c:Nat),k≤6∧i=.int .i64 k∧v=.slice x n c∧Hid ((levels.take k).flatten.length=n∧wr.ownsRow w.heap.size 9 1 (.slice x n c) n (cK (levels.take k).flatten)∧Fr [] w wr)) (fun _ _ i _=>6-(intOf i).toNat)
   case atStart=>exact⟨0,x1,0,c1,by omega,rfl,rfl,rfl,hown1,hf1⟩
   case round =>
    clear hown1 hf1;obtain⟨k,x,n,c,hk,rfl,rfl,hq⟩:=hrel
    obtain⟨hn,hown,hf⟩:=hq.out
    clear hq;by_cases hlt2:k<6
    ·obtain⟨l,hl⟩:∃l,levels[k]? = some l:=⟨levels[k]'(by simpa[levels]using hlt2),by simp[levels,hlt2]⟩
     obtain⟨b,c2,k1,k2,k3,k4⟩:=hL k l hl
     have hn2:=DZ k l hl;have hfl:=Az k l hl;have hb:=zo k;have hb2:=zo (k+1);rw[hn2]at hb2
     rw[hn]at hb hb2 hn2
     have k1':=hf.cell k1 (by simp);have hgr:=hf.lt hgw
     have hcs:∀j u,(cK l)[j]? = some u→wr.cell? ((⟨b,0,none⟩:Addr).add j)=some u:=fun j u hj=>by
      rw[add0];have hj':j<l.length:=by have:=(List.getElem?_eq_some_iff.1 hj).1;simpa[cK]using this
      rw[hf.cell (k4 j hj') (by simp)];simp[cK,hj']at hj
      rw[←hj];simp[List.getD,hj']
     have hsz:=hf.size;have HN:=Lib.hid hn2;have HL:=Lib.hid hfl;have HC:=Lib.hid hcs;have HNN:=Lib.hid hn;clear hn2 hfl hl k4 hcs hn
     go_wp2_with (at_builtin;refine wpList_append_own _ rfl _ _ 67 rfl w.heap.size 9 i0 (.string ⟨#[]⟩) 1 16 Tryz.underlying67 hi hz0 hz1 hz2 rfl (by decide) _ n (cK (levels.take k).flatten) rfl hown ⟨b,0,none⟩ l.length c2 (cK l) rfl (by simp[cK]) HC.out (by simp[cK,Value.oneCell']) (by simp[maxLen];omega) (by omega) hsz ?_;intro v' w2 hown2 hg2 _)
     go_roundw
     case rel =>
      have hv2:∃x' c',v'=.slice x' (n+l.length) c':=by
       rcases hown2.2 with⟨rfl,h0⟩|⟨g',cap,cur,rfl,_⟩
       ·exact⟨none,0,by rw[h0]⟩
       ·exact⟨_,_,rfl⟩
      obtain⟨x',c',rfl⟩:=hv2
      refine⟨k+1,x',n+l.length,c',by omega,by go_num,rfl,HN.out,?_,hf.grown hg2 (fun j e=>.inr (hown.lt j e).1)⟩;rw[HL.out,vQ];exact hown2
     case measure=>simp[intOf];omega
    ·obtain rfl:k=6:=by omega
     have h11:(levels.take 6).flatten.length=11:=by decide
     rw[h11]at hn
     subst hn;go_wp2;go_ret;refine⟨x,c,rfl,?_,hf⟩
     have:levels.take 6=levels:=rfl
     rw[this]at hown
     exact hown
theorem Fj (w:World):Calls Tryz.prog 219 #[] w fun e w'=>∃x n c,e=.returned (.slice x n c)∧Fr [] w w'∧bO w' (.slice x n c) Ck.binaries:=by
 obtain⟨i0,hi,hz0,hz1,hz2⟩:=info_parts Tryz.infoStr
 go_enter Tryz.func219,Tryz.ntmps219
 go_wp2_with (first|(go_at_call 261;refine(oz _).mono ?_;rintro e w1 ⟨g,rfl,hf1,hL⟩)|(go_at_call 260;refine(JV _ _ g hL).mono ?_;rintro e w2 ⟨x,c,rfl,hown,hf2⟩)|(at_builtin;refine wpList_append_lies _ rfl _ _ 67 rfl w1.heap.size 9 i0 (.string ⟨#[]⟩) 1 16 Tryz.underlying67 hi hz0 hz1 hz2 rfl (by decide) _ 11 (cK levels.flatten) rfl (aF hown ((Fr.refl [] _).alloc _) (by simp)) ⟨w2.heap.size,0,none⟩ 6 6 (cK [[61,61],[33,61],[60],[60,61],[62],[62,61]]) rfl (by simp[cK]) (World.news_of_block (au.new _ _ _)) (by simp[cK,Value.oneCell']) (by omega) (by simp[maxLen]) (by omega) (by have:=hf2.size;simp;omega) _ rfl ?_;intro g' cap' w3 hown3 hg3 CQ hlt3))
 go_ret;refine⟨_,_,_,rfl,((hf1.trans hf2).alloc _).grown hg3 (fun j e=>.inr (by have:=(hown.lt j e).1;have:=hf1.size;omega)),.inr ⟨g',cap',rfl,hlt3,fun j hj=>?_⟩⟩;have hb:(cK Ck.binaries)[j]? = some (.string ⟨(Ck.binaries.getD j []).toArray⟩):=by simp[cK,hj]
 have:=hown3.cells (g:=g') rfl j _ hb
 rw[add0]at this
 exact this
theorem vV (a b:Bytes):dJ (a++b)=dJ a++dJ b:=by simp[dJ]
theorem JW (s:Bytes) (k:Nat) (h:k<s.length):(s.take (k+1)).flatMap dA=(s.take k).flatMap dA++dA s[k]:=by
 rw[List.take_succ_eq_append_getElem h,List.flatMap_append];simp
theorem JX (s:Bytes) (k:Nat):((s.take k).flatMap dA).length≤4*s.length:=by
 have:=DR (s.take k)
 simp only[quote,List.length_cons,List.length_append,List.length_nil,List.length_take]at this;omega
theorem Fp {c:UInt8} (h1:(c==34)=false) (h2:(c==92)=false) (h3:(c==10)=false) (h4:32≤(c.toNat:Int)) (h5:(c.toNat:Int)≤126):dA c=[c]:=by
 unfold dA
 have e1:Nat.blt c.toNat 32=false:=by
  cases h:Nat.blt c.toNat 32
  ·rfl
  ·have:c.toNat<32:=by simpa using h
   omega
 have e2:Nat.blt 126 c.toNat=false:=by
  cases h:Nat.blt 126 c.toNat
  ·rfl
  ·have:126<c.toNat:=by simpa using h
   omega
 simp[h1,h2,h3,e1,e2]
theorem Tk (n:Nat) (h:n<256):bits BinOp.and IntKind.u8 (n:Int) 15=(n:Int)%16:=by
 have:∀m:Fin 256,bits BinOp.and IntKind.u8 (m.1:Int) 15=(m.1:Int)%16:=by decide
 exact this ⟨n,h⟩
theorem RH (n:Nat) (h:n<16):([48,49,50,51,52,53,54,55,56,57,97,98,99,100,101,102]:Bytes)[n]'(by simpa using h)=nK n:=by
 have:∀m:Fin 16,([48,49,50,51,52,53,54,55,56,57,97,98,99,100,101,102]:Bytes)[m.1]=nK m.1:=by decide
 exact this ⟨n,h⟩
theorem kS {s:Bytes} {w wr w2:World} {k n:Nat} {q:Bytes} {x:Option Addr} {c:Nat} {v':Value} (hk:k+1≤s.length) (hn:(34::(s.take k).flatMap dA).length=n) (ht:(s.take (k+1)).flatMap dA=(s.take k).flatMap dA++dA (s[k]'(by omega))) (hq:dA (s[k]'(by omega))=q)
  {o:Obj} (hown:wr.ownsRow w.heap.size 5 1 (.slice x n c) n (dJ (34::(s.take k).flatMap dA))) (hown2:w2.ownsRow w.heap.size 5 1 v' (n+q.length) (dJ (34::(s.take k).flatMap dA)++dJ q)) (hg2:(wr.alloc o).grownBy w2 (Value.slice x n c).ownBlock) (hf:Fr [] w wr) :
  ∃(x:Option Addr) (n c:Nat),k+1≤s.length∧(Value.int .i64 ((k:Int)+1))=.int .i64 ((k+1:Nat):Int)∧v'=.slice x n c∧Hid ((34::(s.take (k+1)).flatMap dA).length=n∧w2.ownsRow w.heap.size 5 1 (.slice x n c) n (dJ (34::(s.take (k+1)).flatMap dA))∧Fr [] w w2):=by
 have hv:∃x' c',v'=.slice x' (n+q.length) c':=by
  rcases hown2.2 with⟨rfl,h0⟩|⟨g',cap,cur,rfl,_⟩
  ·exact⟨none,0,by rw[h0]⟩
  ·exact⟨_,_,rfl⟩
 obtain⟨x',c',rfl⟩:=hv
 refine⟨x',n+q.length,c',hk,rfl,rfl,?_,?_,?_⟩
 ·rw[ht,hq,←List.cons_append,List.length_append,hn]
 ·rw[ht,hq,←List.cons_append,vV];exact hown2
 ·exact(hf.alloc o).grown hg2 (fun j e=>.inr (hown.lt j e).1)
theorem MX (s:Bytes) (w:World) (hs:s.length≤1099511627776):Calls Tryz.prog 222 #[.string ⟨s.toArray⟩] w fun e w'=>e=.returned (.string ⟨(quote s).toArray⟩)∧Fr [] w w':=by
 obtain⟨i0,hI,hz0,hz1,hz2⟩:=info_parts Tryz.infoU8
 have HS:Hid (s.length≤1099511627776):=hs;have hs':(s.length:Int)≤9223372036854775807:=by omega
 clear hs;go_enter Tryz.func222,Tryz.ntmps222;go_wp2
 go_loopw [3,4,5,9] (fun v _i _c i wr=>∃(k:Nat) (x:Option Addr) (n c:Nat),k≤s.length∧i=.int .i64 k∧v=.slice x n c∧Hid ((34::(s.take k).flatMap dA).length=n∧wr.ownsRow w.heap.size 5 1 (.slice x n c) n (dJ (34::(s.take k).flatMap dA))∧Fr [] w wr)) (fun _ _ _ i _=>s.length-(intOf i).toNat)
 case atStart=>exact⟨0,_,1,1,by omega,rfl,rfl,rfl,⟨rfl,.inr ⟨w.heap.size,1,#[.int .u8 34],rfl,Nat.le_refl _,au.new w _ _,by omega,by simp[maxLen],rfl,rfl⟩⟩,(Fr.refl _ _).alloc _⟩
 case round =>
  obtain⟨k,x,n,c,hk,rfl,rfl,hq⟩:=hrel
  obtain⟨hn,hown,hf⟩:=hq.out
  clear hq;have HN:=Lib.hid hn;have hsz:=hf.size;have hB0:n+4≤4398046511114:=by have:=JX s k;have:=HS.out;rw[List.length_cons]at hn;omega
  have HB1:Hid (n+4≤maxLen):=by show _≤_;simp[maxLen];omega
  have HB2:Hid ((n+4)*1≤140737488355328):=by show _≤_;omega
  clear hn hB0;by_cases hlt:k<s.length
  ·have HT:=Lib.hid (JW s k hlt);have hk1:k+1≤s.length:=hlt;cases t34:((s[k].toNat:Int)==34)
   rotate_left
   ·go_wp2_with (at_builtin;refine wpList_append_own _ rfl _ _ 42 rfl w.heap.size 5 i0 (.int .u8 0) 1 1 Tryz.underlying42 hI hz0 hz1 hz2 rfl (by decide) _ n (dJ (34::(s.take k).flatMap dA)) rfl (aF hown ((Fr.refl [] _).alloc _) (by simp)) ⟨wr.heap.size,0,none⟩ 2 2 (dJ [92,s[k]]) rfl rfl (World.news_of_block (au.new _ _ _)) (by simp[dJ,Value.oneCell']) (Nat.le_trans (by omega) HB1.out) (Nat.le_trans (by omega) HB2.out) (by simp;omega) ?_;intro v' w2 hown2 hg2 _)
    go_roundw
    case rel=>exact⟨k+1,kS hk1 HN.out HT.out (q:=[92,s[k]]) (by rw[u8b _ 34 34 rfl]at t34;simp[dA,t34]) hown hown2 hg2 hf⟩
    case measure=>simp[intOf];omega
   cases Om:((s[k].toNat:Int)==92)
   rotate_left
   ·go_wp2_with (at_builtin;refine wpList_append_own _ rfl _ _ 42 rfl w.heap.size 5 i0 (.int .u8 0) 1 1 Tryz.underlying42 hI hz0 hz1 hz2 rfl (by decide) _ n (dJ (34::(s.take k).flatMap dA)) rfl (aF hown ((Fr.refl [] _).alloc _) (by simp)) ⟨wr.heap.size,0,none⟩ 2 2 (dJ [92,s[k]]) rfl rfl (World.news_of_block (au.new _ _ _)) (by simp[dJ,Value.oneCell']) (Nat.le_trans (by omega) HB1.out) (Nat.le_trans (by omega) HB2.out) (by simp;omega) ?_;intro v' w2 hown2 hg2 _)
    go_roundw
    case rel=>exact⟨k+1,kS hk1 HN.out HT.out (q:=[92,s[k]]) (by rw[u8b _ 92 92 rfl]at Om;simp[dA,Om]) hown hown2 hg2 hf⟩
    case measure=>simp[intOf];omega
   cases t10:((s[k].toNat:Int)==10)
   rotate_left
   ·go_wp2_with (at_builtin;refine wpList_append_own _ rfl _ _ 42 rfl w.heap.size 5 i0 (.int .u8 0) 1 1 Tryz.underlying42 hI hz0 hz1 hz2 rfl (by decide) _ n (dJ (34::(s.take k).flatMap dA)) rfl (aF hown ((Fr.refl [] _).alloc _) (by simp)) ⟨wr.heap.size,0,none⟩ 2 2 (dJ [92,110]) rfl rfl (World.news_of_block (au.new _ _ _)) (by simp[dJ,Value.oneCell']) (Nat.le_trans (by omega) HB1.out) (Nat.le_trans (by omega) HB2.out) (by simp;omega) ?_;intro v' w2 hown2 hg2 _)
    go_roundw
    case rel=>exact⟨k+1,kS hk1 HN.out HT.out (q:=[92,110]) (by rw[u8b _ 34 34 rfl]at t34;rw[u8b _ 92 92 rfl]at Om;rw[u8b _ 10 10 rfl]at t10;simp[dA,t34,Om,t10]) hown hown2 hg2 hf⟩
    case measure=>simp[intOf];omega
   by_cases hin:32≤(s[k].toNat:Int)∧(s[k].toNat:Int)≤126
   ·obtain⟨h32,Rp⟩:=hin
    ·go_wp2_with (at_builtin;refine wpList_append_own _ rfl _ _ 42 rfl w.heap.size 5 i0 (.int .u8 0) 1 1 Tryz.underlying42 hI hz0 hz1 hz2 rfl (by decide) _ n (dJ (34::(s.take k).flatMap dA)) rfl (aF hown ((Fr.refl [] _).alloc _) (by simp)) ⟨wr.heap.size,0,none⟩ 1 1 (dJ [s[k]]) rfl rfl (World.news_of_block (au.new _ _ _)) (by simp[dJ,Value.oneCell']) (Nat.le_trans (by omega) HB1.out) (Nat.le_trans (by omega) HB2.out) (by simp;omega) ?_;intro v' w2 hown2 hg2 _)
     go_roundw
     case rel=>exact⟨k+1,kS hk1 HN.out HT.out (q:=[s[k]]) (by rw[u8b _ 34 34 rfl]at t34;rw[u8b _ 92 92 rfl]at Om;rw[u8b _ 10 10 rfl]at t10;exact Fp t34 Om t10 h32 Rp) hown hown2 hg2 hf⟩
     case measure=>simp[intOf];omega
   ·have hout:(s[k].toNat:Int)<32∨126<(s[k].toNat:Int):=by omega
    clear hin;have ad5:s[k].toNat<256:=UInt8.toNat_lt _;have hq1:s[k].toNat/16<16:=by omega
    have hq2:s[k].toNat%16<16:=by omega
    have eq1:((s[k].toNat:Int)/16).toNat=s[k].toNat/16:=by omega
    have eq2:((s[k].toNat:Int)%16).toNat=s[k].toNat%16:=by omega
    have hqq:dA s[k]=[92,120,nK (s[k].toNat/16),nK (s[k].toNat%16)]:=by
     rw[u8b _ 34 34 rfl]at t34;rw[u8b _ 92 92 rfl]at Om;rw[u8b _ 10 10 rfl]at t10
     unfold dA;have e3:(Nat.blt s[k].toNat 32||Nat.blt 126 s[k].toNat)=true:=by simp;omega
     simp only[t34,Om,t10,e3];simp
    have HQ:=Lib.hid hqq;have E1:=Lib.hid eq1;have E2:=Lib.hid eq2;clear hqq eq1 eq2;rcases hout with h32|Rp
    ·go_wp2;have hS:(fun _:World=>True) wr.drew:=trivial;refine wp_region_held (S:=fun _:World=>True) (by kernel_rfl) ?_;refine tk 0 (.slice x n c) rfl hS (fun X hX=>?_) ?_
     ·go_simp
     simp only[Act.put,acts];refine tk 1 (.int .u8 s[k].toNat) rfl hS (fun X hX=>?_) ?_
     ·go_simp
     simp only[Act.put,acts];refine tk 2 (.int .u8 ((s[k].toNat/16:Nat):Int)) rfl hS (fun X hX=>?_) ?_
     ·go_simp
     simp only[Act.put,acts];refine tk 4 (.int .u8 s[k].toNat) rfl hS (fun X hX=>?_) ?_
     ·go_simp
     simp only[Act.put,acts];refine tk 5 (.int .u8 ((s[k].toNat%16:Nat):Int)) rfl hS (fun X hX=>?_) ?_
     ·go_simp;exact Tk _ (UInt8.toNat_lt _)
     simp only[Act.put,acts];refine tk 3 (.int .u8 (nK (s[k].toNat/16)).toNat) rfl hS (fun X hX=>?_) ?_
     ·go_simp;rw[dif_pos ⟨by omega,by omega⟩];simp only[Result.andThen];simp only[E1.out,RH _ hq1]
     simp only[Act.put,acts];refine tk 6 (.int .u8 (nK (s[k].toNat%16)).toNat) rfl hS (fun X hX=>?_) ?_
     ·go_simp;rw[dif_pos ⟨by omega,by omega⟩];simp only[Result.andThen];simp only[E2.out,RH _ hq2]
     simp only[Act.put,acts];refine wpAnyH_all (rs:=[7]) (by kernel_rfl) (by simp) ?_;intro i hi;obtain rfl:i=7:=by simpa using hi
     refine wpOp_step rfl (fun K hK=>?_);rw[if_pos (by rfl)];go_simp;refine hK _ _ ⟨trivial,?_⟩;clear hK K;refine wpAnyH_all (rs:=[8]) (by kernel_rfl) (by simp) ?_;intro i hi;obtain rfl:i=8:=by simpa using hi
     refine wpOp_step rfl (fun K hK=>?_);rw[if_pos (by rfl)];refine wp_append_own _ (.tmp 43) (.tmp 50) 42 rfl w.heap.size 5 i0 (.int .u8 0) 1 1 Tryz.underlying42 hI hz0 hz1 hz2 rfl (by decide) _ n (dJ (34::(s.take k).flatMap dA)) rfl (aF hown (((Fr.refl [] _).alloc _).drew) (by simp)) ⟨wr.heap.size,0,none⟩ 4 4 (dJ [92,120,nK (s[k].toNat/16),nK (s[k].toNat%16)]) rfl rfl (World.news_of_block ((au.new wr _ _).drew)) (by simp[dJ,Value.oneCell']) (Nat.le_trans (by omega) HB1.out) (Nat.le_trans (by omega) HB2.out) (by simp;omega) ?_;intro v' w2 hown2 hg2 _;refine hK _ _ ⟨trivial,?_⟩;clear hK K;refine wpAnyH_all (rs:=[9]) (by kernel_rfl) (by simp) ?_;intro i hi;obtain rfl:i=9:=by simpa using hi
     refine wpOp_step rfl (fun K hK=>?_);rw[if_pos (by rfl)];go_simp;refine hK _ _ ⟨trivial,wpAnyH_done (by kernel_rfl) ?_ _⟩;clear hK K;go_wp2
     go_roundw
     case rel=>exact⟨k+1,kS hk1 HN.out HT.out (q:=[92,120,nK (s[k].toNat/16),nK (s[k].toNat%16)]) HQ.out hown hown2 (dL hg2) hf⟩
     case measure=>simp[intOf];omega
    ·go_wp2;have hS:(fun _:World=>True) wr.drew:=trivial;refine wp_region_held (S:=fun _:World=>True) (by kernel_rfl) ?_;refine tk 0 (.slice x n c) rfl hS (fun X hX=>?_) ?_
     ·go_simp
     simp only[Act.put,acts];refine tk 1 (.int .u8 s[k].toNat) rfl hS (fun X hX=>?_) ?_
     ·go_simp
     simp only[Act.put,acts];refine tk 2 (.int .u8 ((s[k].toNat/16:Nat):Int)) rfl hS (fun X hX=>?_) ?_
     ·go_simp
     simp only[Act.put,acts];refine tk 4 (.int .u8 s[k].toNat) rfl hS (fun X hX=>?_) ?_
     ·go_simp
     simp only[Act.put,acts];refine tk 5 (.int .u8 ((s[k].toNat%16:Nat):Int)) rfl hS (fun X hX=>?_) ?_
     ·go_simp;exact Tk _ (UInt8.toNat_lt _)
     simp only[Act.put,acts];refine tk 3 (.int .u8 (nK (s[k].toNat/16)).toNat) rfl hS (fun X hX=>?_) ?_
     ·go_simp;rw[dif_pos ⟨by omega,by omega⟩];simp only[Result.andThen];simp only[E1.out,RH _ hq1]
     simp only[Act.put,acts];refine tk 6 (.int .u8 (nK (s[k].toNat%16)).toNat) rfl hS (fun X hX=>?_) ?_
     ·go_simp;rw[dif_pos ⟨by omega,by omega⟩];simp only[Result.andThen];simp only[E2.out,RH _ hq2]
     simp only[Act.put,acts];refine wpAnyH_all (rs:=[7]) (by kernel_rfl) (by simp) ?_;intro i hi;obtain rfl:i=7:=by simpa using hi
     refine wpOp_step rfl (fun K hK=>?_);rw[if_pos (by rfl)];go_simp;refine hK _ _ ⟨trivial,?_⟩;clear hK K;refine wpAnyH_all (rs:=[8]) (by kernel_rfl) (by simp) ?_;intro i hi;obtain rfl:i=8:=by simpa using hi
     refine wpOp_step rfl (fun K hK=>?_);rw[if_pos (by rfl)];refine wp_append_own _ (.tmp 43) (.tmp 50) 42 rfl w.heap.size 5 i0 (.int .u8 0) 1 1 Tryz.underlying42 hI hz0 hz1 hz2 rfl (by decide) _ n (dJ (34::(s.take k).flatMap dA)) rfl (aF hown (((Fr.refl [] _).alloc _).drew) (by simp)) ⟨wr.heap.size,0,none⟩ 4 4 (dJ [92,120,nK (s[k].toNat/16),nK (s[k].toNat%16)]) rfl rfl (World.news_of_block ((au.new wr _ _).drew)) (by simp[dJ,Value.oneCell']) (Nat.le_trans (by omega) HB1.out) (Nat.le_trans (by omega) HB2.out) (by simp;omega) ?_;intro v' w2 hown2 hg2 _;refine hK _ _ ⟨trivial,?_⟩;clear hK K;refine wpAnyH_all (rs:=[9]) (by kernel_rfl) (by simp) ?_;intro i hi;obtain rfl:i=9:=by simpa using hi
     refine wpOp_step rfl (fun K hK=>?_);rw[if_pos (by rfl)];go_simp;refine hK _ _ ⟨trivial,wpAnyH_done (by kernel_rfl) ?_ _⟩;clear hK K;go_wp2
     go_roundw
     case rel=>exact⟨k+1,kS hk1 HN.out HT.out (q:=[92,120,nK (s[k].toNat/16),nK (s[k].toNat%16)]) HQ.out hown hown2 (dL hg2) hf⟩
     case measure=>simp[intOf];omega
  ·obtain rfl:k=s.length:=by omega
   have OC:∀(w2:World) (v':Value),w2.ownsRow w.heap.size 5 1 v' (n+1) (dJ (34::(s.take s.length).flatMap dA)++dJ [34])→(convert 42 9 v').run Tryz.prog w2=.ok (.string ⟨(quote s).toArray⟩) w2:=fun w2 v' h=>by
    have e:dJ (34::(s.take s.length).flatMap dA)++dJ [34]=dJ (quote s):=by rw[←vV,List.take_length];rfl
    have el:n+1=(quote s).length:=by
     have h1:=HN.out;rw[List.take_length]at h1
     rw[←h1];simp[quote]
    rw[e,el]at h
    exact qR Tryz.underlying42 Tryz.underlying5 Tryz.underlying9 h
   go_wp2_with (at_builtin;refine wpList_append_lies _ rfl _ _ 42 rfl w.heap.size 5 i0 (.int .u8 0) 1 1 Tryz.underlying42 hI hz0 hz1 hz2 rfl (by decide) _ n (dJ (34::(s.take s.length).flatMap dA)) rfl (aF hown ((Fr.refl [] _).alloc _) (by simp)) ⟨wr.heap.size,0,none⟩ 1 1 (dJ [34]) rfl rfl (World.news_of_block (au.new _ _ _)) (by simp[dJ,Value.oneCell']) (by omega) (Nat.le_trans (by omega) HB1.out) (Nat.le_trans (by omega) HB2.out) (by simp;omega) _ rfl ?_;intro g' cap' w2 hown2 hg2 ad6 hlt2;have HC:=OC _ _ hown2)
   go_ret;exact⟨rfl,(hf.alloc _).grown hg2 (fun j e=>.inr (hown.lt j e).1)⟩
theorem GZ (x:Nat) (hx:x<18446744073709551616):bits BinOp.and IntKind.u64 (x:Int) 2047=((x%2048:Nat):Int):=by
 unfold bits;have h3:x &&& 2047=x%2048:=Nat.and_two_pow_sub_one_eq_mod x 11
 have h4:(BitVec.ofInt IntKind.u64.bits (x:Int) &&& BitVec.ofInt IntKind.u64.bits 2047).toNat=x%2048:=by
  rw[BitVec.toNat_and];simp only[IntKind.bits,BitVec.toNat_ofInt];have g1:((x:Int)%((2 ^ 64:Nat):Int)).toNat=x:=by omega
  have g2:((2047:Int)%((2 ^ 64:Nat):Int)).toNat=2047:=by omega
  rw[g1,g2,h3]
 simp only[h4];exact ug _ (by have:=Nat.mod_lt x (y:=2048) (by decide);omega)
theorem LK:∀q:Nat,q<16→(([48,49,50,51,52,53,54,55,56,57,97,98,99,100,101,102]:Bytes).drop q).take 1=[nK q]:=by decide
structure qd (base:Bytes) (f0 m:Nat) (l:Bytes) (q:Nat):Prop where
 eq:l++rH q m=base++rH 14 f0
 q14:q≤14
 dvd:16 ^ (14-q) ∣ m
 VD:l.length+q≤base.length+14
 base:base.length≤20
theorem adB (base:Bytes) (f0:Nat) (h:base.length≤20):qd base f0 f0 base 14:=⟨rfl,by omega,by simp,by omega,h⟩
theorem qd.len {base:Bytes} {f0 m:Nat} {l:Bytes} {q:Nat} (h:qd base f0 m l q):l.length≤40:=by have:=h.VD;have:=h.base;omega
theorem qd.done {base:Bytes} {f0:Nat} {l:Bytes} {q:Nat} (h:qd base f0 0 l q):l=base++rH 14 f0:=by
 have:=h.eq
 cases q<;>simpa[rH]using this
theorem qd.step {base:Bytes} {f0 m:Nat} {l:Bytes} {q:Nat} (h:qd base f0 m l q) (h0:m≠0) (hm:m<4503599627370496):qd base f0 (m*16%4503599627370496) (l++[nK (m/281474976710656)]) (q-1):=by
 have hj:14-q≤12:=by
  rcases Nat.lt_or_ge (14-q) 13 with h1|h1
  ·omega
  ·have h2:(16 ^ 13:Nat) ∣ m:=Nat.dvd_trans (Nat.pow_dvd_pow 16 h1) h.dvd;have h3:=Nat.le_of_dvd (by omega) h2
   have:(16 ^ 13:Nat)=4503599627370496:=by decide
   omega
 obtain⟨q,rfl⟩:∃q',q=q'+1:=⟨q-1,by omega⟩
 have hq:=h.q14;refine⟨?_,by omega,?_,?_,h.base⟩
 ·have h1:=h.eq
  have e:rH (q+1) m=nK (m/281474976710656)::rH q (m*16%4503599627370496):=by
   have e48:(2:Nat) ^ 48=281474976710656:=by decide
   have e52:(2:Nat) ^ 52=4503599627370496:=by decide
   rw[rH,if_neg (by simpa using h0),e48,e52]
  rw[e]at h1
  simpa using h1
 ·show 16 ^ (14-q) ∣ _;have e:14-q=(14-(q+1))+1:=by omega
  rw[e];refine(Nat.dvd_mod_iff ?_).2 ?_
  ·have:(4503599627370496:Nat)=16 ^ 13:=by decide
   rw[this];exact Nat.pow_dvd_pow 16 (by omega)
  ·rw[Nat.pow_succ];exact Nat.mul_dvd_mul_right h.dvd 16
 ·have:=h.VD;simp;omega
theorem mG (a b:Bytes):(⟨a.toArray⟩:ByteArray)++⟨b.toArray⟩=⟨(a++b).toArray⟩:=by
 apply ByteArray.ext;simp[ByteArray.append]
def CZ:Bool→Bytes
 | true=>[45]
 | false=>[]
def Po:Bool→Bytes
 | true=>[46]
 | false=>[]
theorem MZ (s:Bool) (B F E:Nat) (w:World) (hV:Vars w) (HB:Hid (B<18446744073709551616)) (hs:((B:Int)/9223372036854775808==1)=s) (hF:bits BinOp.and IntKind.u64 (B:Int) 4503599627370495=(F:Int)) (hE:bits BinOp.and IntKind.u64 ((B:Int)/4503599627370496) 2047=(E:Int)) (hE2:((E:Int)==2047)=true) (Ub:E=2047) (xq:((F:Int) != 0)=true) (HT:Hid (iQ B=[110,97,110])) :
  Calls Tryz.prog 221 #[.int .u64 (B:Int)] w fun e w'=>e=.returned (.string ⟨(iQ B).toArray⟩)∧Fr [] w w':=by
 cases s
 all_goals
  go_enter Tryz.func221,Tryz.ntmps221;subst Ub;go_wp2;go_ret;exact⟨by rw[HT.out];first|rfl|(rw[←mG];rfl),Fr.refl _ _⟩
theorem M0 (s:Bool) (B F E:Nat) (w:World) (hV:Vars w) (HB:Hid (B<18446744073709551616)) (hs:((B:Int)/9223372036854775808==1)=s) (hF:bits BinOp.and IntKind.u64 (B:Int) 4503599627370495=(F:Int)) (hE:bits BinOp.and IntKind.u64 ((B:Int)/4503599627370496) 2047=(E:Int)) (Ub:E=2047) (hFi:F=0) (HT:Hid (iQ B=CZ s++[105,110,102])) :
  Calls Tryz.prog 221 #[.int .u64 (B:Int)] w fun e w'=>e=.returned (.string ⟨(iQ B).toArray⟩)∧Fr [] w w':=by
 cases s
 all_goals
  go_enter Tryz.func221,Tryz.ntmps221;subst Ub;subst hFi;go_wp2;go_ret;exact⟨by rw[HT.out];first|rfl|(rw[←mG];rfl),Fr.refl _ _⟩
theorem JY (s:Bool) (B F E:Nat) (w:World) (hV:Vars w) (HB:Hid (B<18446744073709551616)) (hs:((B:Int)/9223372036854775808==1)=s) (hF:bits BinOp.and IntKind.u64 (B:Int) 4503599627370495=(F:Int)) (hE:bits BinOp.and IntKind.u64 ((B:Int)/4503599627370496) 2047=(E:Int)) (Ub:E=0) (hFi:F=0) (HT:Hid (iQ B=CZ s++[48,120,48,112,43,48])) :
  Calls Tryz.prog 221 #[.int .u64 (B:Int)] w fun e w'=>e=.returned (.string ⟨(iQ B).toArray⟩)∧Fr [] w w':=by
 cases s
 all_goals
  go_enter Tryz.func221,Tryz.ntmps221;subst Ub;subst hFi;go_wp2;go_ret;exact⟨by rw[HT.out];first|rfl|(rw[←mG];rfl),Fr.refl _ _⟩
theorem JZ (s z:Bool) (B F E:Nat) (w:World) (hV:Vars w) (HB:Hid (B<18446744073709551616)) (hs:((B:Int)/9223372036854775808==1)=s) (hF:bits BinOp.and IntKind.u64 (B:Int) 4503599627370495=(F:Int)) (hE:bits BinOp.and IntKind.u64 ((B:Int)/4503599627370496) 2047=(E:Int)) (hE1:((E:Int)==2047)=false) (hE0:((E:Int)==0)=false) (hEl:(E:Int)≤2047) (U6:F<4503599627370496) (ee:Int) (hee:(E:Int)-1023=ee) (xq:((F:Int) != 0)=z) (HT:Hid (iQ B=CZ s++iE F ee)) :
  Calls Tryz.prog 221 #[.int .u64 (B:Int)] w fun e w'=>e=.returned (.string ⟨(iQ B).toArray⟩)∧Fr [] w w':=by
 obtain⟨bs,hbs⟩:∃bs,bs=CZ s++[48,120,49]++Po z:=⟨_,rfl⟩
 have hbl:bs.length≤20:=by rw[hbs];cases s<;>cases z<;>decide
 cases s<;>cases z
 all_goals
  go_enter Tryz.func221,Tryz.ntmps221;have hfl:=U6;have Uc:=xq;simp only[bne_iff_ne,ne_eq,Int.natCast_eq_zero,bne_eq_false_iff_eq]at Uc;have HFz:=Lib.hid Uc;clear Uc
  go_wp2_with (fail)
  go_loop [4,7] (fun m' s'=>∃(m:Nat) (l:Bytes),m'=.int .u64 (m:Int)∧s'=.string ⟨l.toArray⟩∧m<4503599627370496∧Hid (∃q,qd bs F m l q)) (fun _ s'=>match s' with | .string b=>100-b.size|_=>0)
  case atStart=>exact⟨F,_,rfl,by rw[hbs];rfl,hfl,14,adB _ _ hbl⟩
  case round =>
   obtain⟨m,l,rfl,rfl,hm,hq⟩:=hrel
   by_cases hm0:m=0
   ·subst hm0;obtain⟨q,hqq⟩:=hq.out
    have hl:=hqq.done;have HL:=Lib.hid hl;have hll:l.length≤40:=hqq.len;clear hl hqq hq;have hdl:=vU ee (by rw[show(10:Nat) ^ 20=100000000000000000000 by decide];omega);rcases Int.lt_or_le ee 0 with hneg|hpos
    ·have hI:=qY ee w hV (by omega) (by omega)
     go_wp2_with (go_at_call 220;refine hI.mono ?_;rintro e1 w1 ⟨rfl,hf⟩)
     all_goals try (exfalso;omega)
     go_ret;refine⟨?_,hf⟩;have hneg':¬0≤ee:=by omega
     rw[HT.out,HL.out,hbs];simp[mG,iE,CZ,Po,hneg',HFz.out]
    ·have hI:=qY ee w hV (by omega) (by omega)
     go_wp2_with (go_at_call 220;refine hI.mono ?_;rintro e1 w1 ⟨rfl,hf⟩)
     all_goals try (exfalso;omega)
     go_ret;refine⟨?_,hf⟩;rw[HT.out,HL.out,hbs];simp[mG,iE,CZ,Po,hpos,HFz.out]
   ·have hne:((m:Int) != 0)=true:=by simpa using hm0
    obtain⟨dg,hdg⟩:∃dg:Nat,m/281474976710656=dg:=⟨_,rfl⟩
    have hdi:(m:Int)/281474976710656=(dg:Int):=by omega
    have aaY:(dg:Int)≤15:=by omega
    have hsh:bits BinOp.and IntKind.u64 ((m:Int)*16) 4503599627370495=((m*16%4503599627370496:Nat):Int):=by
     rw[show((m:Int)*16)=((m*16:Nat):Int)by omega];exact bits_mask _ (by omega)
    have hxx:=LK dg (by omega);have hll:l.length≤40:=by obtain⟨q,h1⟩:=hq.out;exact h1.len
    go_wp2_with (fail)
    refine⟨⟨m*16%4503599627370496,l++[nK dg],by simp,by rw[←mG],Nat.mod_lt _ (by decide),?_⟩,?_⟩
    ·obtain⟨q,h1⟩:=hq.out
     have h2:=h1.step hm0 hm;rw[hdg]at h2
     exact⟨q-1,h2⟩
    ·rw[mG];simp[ByteArray.size];omega
theorem M4 (s z:Bool) (B F E:Nat) (w:World) (hV:Vars w) (HB:Hid (B<18446744073709551616)) (hs:((B:Int)/9223372036854775808==1)=s) (hF:bits BinOp.and IntKind.u64 (B:Int) 4503599627370495=(F:Int)) (hE:bits BinOp.and IntKind.u64 ((B:Int)/4503599627370496) 2047=(E:Int)) (Ub:E=0) (xq:((F:Int) != 0)=true) (U6:F<4503599627370496) (up:Nat) (hup:(Lib.bitLen F:Int)=53-(up:Int)) (hu1:1≤up) (hu2:(up:Int)≤52) (f0:Nat) (hf0:F*2 ^ up%4503599627370496=f0) (hwr:F*2 ^ up<18446744073709551616) (ee:Int) (hee:1-(up:Int)-1023=ee) (hF2:((f0:Int) != 0)=z) (HT:Hid (iQ B=CZ s++iE f0 ee)) :
  Calls Tryz.prog 221 #[.int .u64 (B:Int)] w fun e w'=>e=.returned (.string ⟨(iQ B).toArray⟩)∧Fr [] w w':=by
 obtain⟨bs,hbs⟩:∃bs,bs=CZ s++[48,120,49]++Po z:=⟨_,rfl⟩
 have hbl:bs.length≤20:=by rw[hbs];cases s<;>cases z<;>decide
 cases s<;>cases z
 all_goals
  go_enter Tryz.func221,Tryz.ntmps221;subst Ub;have hFF:((F:Int)==0)=false:=by simpa using xq
  have hfl:f0<4503599627370496:=by rw[←hf0];exact Nat.mod_lt _ (by decide)
  have Uc:=hF2;simp only[bne_iff_ne,ne_eq,Int.natCast_eq_zero,bne_eq_false_iff_eq]at Uc;have HFz:=Lib.hid Uc;clear Uc;have hlz:=Tryz.bits_LeadingZeros64 (F:Int) w (by omega) (by omega);rw[Int.toNat_natCast,hup,show(64:Int)-(53-(up:Int))=(up:Int)+11 by omega]at hlz
  have acZ:bits BinOp.and IntKind.u64 (IntKind.u64.wrap ((F:Int)*2 ^ up)) 4503599627370495=(f0:Int):=by
   rw[show(F:Int)*2 ^ up=((F*2 ^ up:Nat):Int)by simp,ug _ hwr,bits_mask _ hwr,hf0]
  clear hf0 hwr
  go_wp2_with (go_at_call 263;refine hlz.mono ?_;rintro e1 w1 ⟨rfl,rfl⟩)
  go_loop [4,7] (fun m' s'=>∃(m:Nat) (l:Bytes),m'=.int .u64 (m:Int)∧s'=.string ⟨l.toArray⟩∧m<4503599627370496∧Hid (∃q,qd bs f0 m l q)) (fun _ s'=>match s' with | .string b=>100-b.size|_=>0)
  case atStart=>exact⟨f0,_,rfl,by rw[hbs];rfl,hfl,14,adB _ _ hbl⟩
  case round =>
   obtain⟨m,l,rfl,rfl,hm,hq⟩:=hrel
   by_cases hm0:m=0
   ·subst hm0;obtain⟨q,hqq⟩:=hq.out
    have hl:=hqq.done;have HL:=Lib.hid hl;have hll:l.length≤40:=hqq.len;clear hl hqq hq;have hdl:=vU ee (by rw[show(10:Nat) ^ 20=100000000000000000000 by decide];omega);rcases Int.lt_or_le ee 0 with hneg|hpos
    ·have hI:=qY ee w1 hV (by omega) (by omega)
     go_wp2_with (go_at_call 220;refine hI.mono ?_;rintro e1 w1 ⟨rfl,hf⟩)
     all_goals try (exfalso;omega)
     go_ret;refine⟨?_,hf⟩;have hneg':¬0≤ee:=by omega
     rw[HT.out,HL.out,hbs];simp[mG,iE,CZ,Po,hneg',HFz.out]
    ·exfalso;omega
   ·have hne:((m:Int) != 0)=true:=by simpa using hm0
    obtain⟨dg,hdg⟩:∃dg:Nat,m/281474976710656=dg:=⟨_,rfl⟩
    have hdi:(m:Int)/281474976710656=(dg:Int):=by omega
    have aaY:(dg:Int)≤15:=by omega
    have hsh:bits BinOp.and IntKind.u64 ((m:Int)*16) 4503599627370495=((m*16%4503599627370496:Nat):Int):=by
     rw[show((m:Int)*16)=((m*16:Nat):Int)by omega];exact bits_mask _ (by omega)
    have hxx:=LK dg (by omega);have hll:l.length≤40:=by obtain⟨q,h1⟩:=hq.out;exact h1.len
    go_wp2_with (fail)
    refine⟨⟨m*16%4503599627370496,l++[nK dg],by simp,by rw[←mG],Nat.mod_lt _ (by decide),?_⟩,?_⟩
    ·obtain⟨q,h1⟩:=hq.out
     have h2:=h1.step hm0 hm;rw[hdg]at h2
     exact⟨q-1,h2⟩
    ·rw[mG];simp[ByteArray.size];omega
theorem J2 (F:Nat) (h0:F≠0) (h:F<4503599627370496):Lib.bitLen F=F.log2+1∧F.log2≤51∧F*2 ^ (52-F.log2)<18446744073709551616:=by
 have h1:=bitLen_spec F (by omega) (by omega);have h2:F.log2<52:=(Nat.log2_lt h0).2 (by have:(2:Nat) ^ 52=4503599627370496:=(by decide);omega);refine⟨h1,by omega,?_⟩;have h3:F<2 ^ (F.log2+1):=Nat.lt_log2_self;have h4:F*2 ^ (52-F.log2)<2 ^ (F.log2+1)*2 ^ (52-F.log2):=Nat.mul_lt_mul_of_pos_right h3 (Nat.pos_of_ne_zero (by simp));rw[←Nat.pow_add,show F.log2+1+(52-F.log2)=53 by omega]at h4
 exact Nat.lt_of_lt_of_le h4 (by decide)
theorem vW (b:Int) (w:World) (hV:Vars w) (h0:0≤b) (h1:b<18446744073709551616):Calls Tryz.prog 221 #[.int .u64 b] w fun e w'=>e=.returned (.string ⟨(iQ b.toNat).toArray⟩)∧Fr [] w w':=by
 obtain⟨B,rfl⟩:∃B:Nat,b=(B:Int):=⟨b.toNat,by omega⟩
 have hB:B<18446744073709551616:=by omega
 rw[Int.toNat_natCast];clear h0 h1;obtain⟨F,hFd⟩:∃F,B%4503599627370496=F:=⟨_,rfl⟩
 obtain⟨E,hEd⟩:∃E,B/4503599627370496%2048=E:=⟨_,rfl⟩
 have U6:F<4503599627370496:=by rw[←hFd];exact Nat.mod_lt _ (by decide)
 have hEl:E<2048:=by rw[←hEd];exact Nat.mod_lt _ (by decide)
 have hF:bits BinOp.and IntKind.u64 (B:Int) 4503599627370495=(F:Int):=by rw[bits_mask B hB,hFd]
 have hE:bits BinOp.and IntKind.u64 ((B:Int)/4503599627370496) 2047=(E:Int):=by
  rw[show(B:Int)/4503599627370496=((B/4503599627370496:Nat):Int)by simp,GZ _ (by omega),hEd]
 have e63:(2:Nat) ^ 63=9223372036854775808:=by decide
 have e52:(2:Nat) ^ 52=4503599627370496:=by decide
 have hT:∀sg:Bytes,(if (B/9223372036854775808==1)=true then[45] else[])=sg→iQ B=if (E==2047&&F != 0)=true then[110,97,110]else if (E==2047)=true then sg++[105,110,102]else if (E==0&&F==0)=true then sg++[48,120,48,112,43,48]else if (E==0)=true then sg++iE (F*2 ^ (52-F.log2)%4503599627370496) (1-((52-F.log2:Nat):Int)-1023)else sg++iE F ((E:Int)-1023):=by
  intro sg hsg;unfold iQ;simp only[e63,e52,hFd,hEd];rw[hsg]
 obtain⟨s,hs⟩:∃s,((B:Int)/9223372036854775808==1)=s:=⟨_,rfl⟩
 have hT:=hT (CZ s) (by
  have h9:(B/9223372036854775808==1)=s:=by
   rw[←hs];rw[Bool.eq_iff_iff];simp only[beq_iff_eq];omega
  rw[h9];cases s<;>rfl)
 by_cases hE1:E=2047
 ·by_cases xq:F=0
  ·exact M0 s B F E w hV (Lib.hid hB) hs hF hE hE1 xq (Lib.hid (by rw[hT];simp[hE1,xq]))
  ·exact MZ s B F E w hV (Lib.hid hB) hs hF hE (by simp[hE1]) hE1 (by simpa using xq) (Lib.hid (by rw[hT];simp[hE1,xq]))
 by_cases hE0:E=0
 ·by_cases xq:F=0
  ·exact JY s B F E w hV (Lib.hid hB) hs hF hE hE0 xq (Lib.hid (by rw[hT];simp[hE0,xq]))
  ·obtain⟨g1,g2,g3⟩:=J2 F xq U6
   exact M4 s _ B F E w hV (Lib.hid hB) hs hF hE hE0 (by simpa using xq) U6 (52-F.log2) (by omega) (by omega) (by omega) _ rfl g3 _ rfl rfl (Lib.hid (by rw[hT];simp[hE0,xq]))
 ·have q1:((E:Int)==2047)=false:=by rw[beq_eq_false_iff_ne];omega
  have q2:((E:Int)==0)=false:=by rw[beq_eq_false_iff_ne];omega
  exact JZ s _ B F E w hV (Lib.hid hB) hs hF hE q1 q2 (by omega) U6 _ rfl rfl (Lib.hid (by rw[hT];simp[hE0,hE1]))
end Go.Proofs.YtoomapkcoibmhaaGreatDoor
end
