/- A part of the proof. -/
import Derived.Test.YtoomapkcoibmhaaGreatDoorBd6
set_option maxRecDepth 100000
set_option maxHeartbeats 12800000
set_option linter.all false
section
open Go Go.Proofs Go.RowKit Go.Shelf Go.Lib Ck
namespace Go.Proofs.YtoomapkcoibmhaaGreatDoor
attribute [local go_sem] Oper.semAt_some
theorem aaB (a b:Bytes):(⟨a.toArray⟩:ByteArray)++(⟨b.toArray⟩:ByteArray)=⟨(a++b).toArray⟩:=D8 a b
theorem abr {W:World} {base n size:Nat} {e:TypeId} {v:Value} {xs:List Value} (h:W.ownsRow base e size v n xs):∃a c,v=.slice a n c:=by
 rcases h.2 with⟨rfl,rfl⟩|⟨g,cap,cur,rfl,_⟩
 ·exact⟨_,_,rfl⟩
 ·exact⟨_,_,rfl⟩
theorem adQ (n:Int) (hg:¬(0≤n∧n≤70)) (w:World) :
  Calls Tryz.prog 3 #[.int .i64 n] w fun e w'=>e=.returned (.bool true)∧Fr [] w w':=by
 go_enter Tryz.func3,Tryz.ntmps3;by_cases h1:n<0
 ·go_wp2;go_ret;exact⟨rfl,Fr.refl _ _⟩
 have h2:70<n:=by omega
 go_wp2;go_ret;exact⟨rfl,Fr.refl _ _⟩
theorem aey (n:Nat) (hn:n≤70) (w:World) (hV:Vars w) :
  Calls Tryz.prog 3 #[.int .i64 n] w fun e w'=>e=.returned (.bool true)∧Fr [] w w':=by
 obtain⟨p1,p1',p2,p2',p4,p4',p5,p5'⟩:=afp n hn
 have p3:=agb n hn;have l1:(bt1 n).length≤2000:=by have:=aa8 f1 20 afj n;rw[afl];simp[bFn];omega
 have l2:(bt2 n).length≤2000:=by have:=aa8 f2 20 afk n;rw[afn];simp[bFn];omega
 have l4:(bt4 n).length≤2000:=by have:=aa8 f4 20 adP n;rw[afo];simp;omega
 have l5:(bt5 n).length≤2000:=by unfold bt5;simp[bFn,IQ];omega
 have l3:=abl n;have L1:=fun X hX=>sU (bt1 n) X hX (by omega)
 have L2:=fun X hX=>sU (bt2 n) X hX (by omega)
 have L3:=fun X hX=>sU (bt3 n) X hX (by omega)
 have L4:=fun X hX=>sU (bt4 n) X hX (by omega)
 have L5:=fun X hX=>sU (bt5 n) X hX (by omega)
 obtain⟨c1,hc1⟩:∃c,(kU (bt1 n)).2.code=c:=⟨_,rfl⟩
 obtain⟨a1,ha1⟩:∃c,(kU (bt1 n)).2.at'=c:=⟨_,rfl⟩
 obtain⟨c2,hc2⟩:∃c,(kU (bt2 n)).2.code=c:=⟨_,rfl⟩
 obtain⟨a2,ha2⟩:∃c,(kU (bt2 n)).2.at'=c:=⟨_,rfl⟩
 obtain⟨c3,hc3⟩:∃c,(kU (bt3 n)).2.code=c:=⟨_,rfl⟩
 obtain⟨a3,ha3⟩:∃c,(kU (bt3 n)).2.at'=c:=⟨_,rfl⟩
 obtain⟨c4,hc4⟩:∃c,(kU (bt4 n)).2.code=c:=⟨_,rfl⟩
 obtain⟨a4,ha4⟩:∃c,(kU (bt4 n)).2.at'=c:=⟨_,rfl⟩
 obtain⟨c5,PN⟩:∃c,(kU (bt5 n)).2.code=c:=⟨_,rfl⟩
 obtain⟨a5,ha5⟩:∃c,(kU (bt5 n)).2.at'=c:=⟨_,rfl⟩
 rw[hc1,ha1]at L1
 rw[hc2,ha2]at L2
 rw[hc3,ha3]at L3
 rw[hc4,ha4]at L4
 rw[PN,ha5]at L5
 have P1:Hid ((n≤64→c1=0)∧(64<n→c1=84∧a1=3)):=⟨fun e=>hc1.symm.trans (p1 e),fun e=>by rw[←hc1,←ha1,p1' e];exact⟨rfl,rfl⟩⟩
 have P2:Hid ((n≤64→∃T,yg (bt2 n)=some T∧bC T false=⟨0,0⟩∧regs T [102]=n∧c2=0∧a2=0∧(kU (bt2 n)).1=T.row)∧(64<n→c2=83)):=⟨fun e=>by
  obtain⟨T,h1,h2,h3⟩:=p2 e
  have h4:=(K4 h1 h2).1
  exact⟨T,h1,h2,h3,by rw[←hc2,h4],by rw[←ha2,h4],by rw[h4]⟩,fun e=>hc2.symm.trans (p2' e)⟩
 have P3:Hid ((n≤66→c3=0)∧(66<n→c3=85∧a3=9)):=⟨fun e=>by rw[←hc3,p3,if_neg (by omega)],fun e=>by rw[←hc3,←ha3,p3,if_pos (by omega)];exact⟨rfl,rfl⟩⟩
 have P4:Hid ((n≤16→c4=0)∧(16<n→c4=81)):=⟨fun e=>hc4.symm.trans (p4 e),fun e=>hc4.symm.trans (p4' e)⟩
 have P5:Hid ((n≤63→c5=0)∧(63<n→c5=71)):=⟨fun e=>PN.symm.trans (p5 e),fun e=>PN.symm.trans (p5' e)⟩
 clear p1 p1' p2 p2' p3 p4 p4' p5 p5' l1 l2 l3 l4 l5 hc1 ha1 hc2 ha2 hc3 ha3 hc4 ha4 PN ha5;have HV:=Lib.hid hV;clear hV;have hD:=fun k (hk:k≤99) X=>afM k hk X
 go_enter Tryz.func3,Tryz.ntmps3;go_wp2
 go_loopw [3,4] (fun t i wr=>∃(k:Nat) (x:Bytes),i=.int .i64 k∧k≤n∧t=.string ⟨x.toArray⟩∧x.length≤20*k+9∧Hid (x=bFn++upL f1 k)∧Hid (Fr [] w wr)) (fun _ i _=>n-(intOf i).toNat)
 case atStart=>exact⟨0,bFn,rfl,Nat.zero_le _,rfl,by decide,Lib.hid (by simp[upL]),Lib.hid (Fr.refl _ _)⟩
 case round =>
  obtain⟨k,x,rfl,hk,rfl,hxl,hx,hf⟩:=hrel
  by_cases hlt:k<n
  ·have hdl:=aaR k
   go_wp2_with (go_at_call 7;refine(hD k (by omega) _).mono ?_;rintro e w1 ⟨rfl,hf1⟩)
   refine⟨⟨k+1,x++f1 k,by go_num,by omega,by unfold f1;simp only[←aaB],by have:=afj k;simp only[List.length_append];omega,Lib.hid ?_,Lib.hid (hf.out.trans hf1)⟩,by simp[intOf];omega⟩;rw[hx.out];simp only[upL,List.append_assoc]
  ·obtain rfl:k=n:=by omega
   rw[afl,←hx.out,←aaB]at L1
   have hf0:=hf.out;clear hx hf hlt;have e3:bt3 k=([102,110,32,102,40,41,32,123,32,119,104,105,108,101,32,116,114,117,101,32,123,32]++xZ (k*15) [98,114,101,97,107,59,32])++[125,32,125]:=rfl;have e5:bt5 k=([102,110,32,102,40,41,32,123,32,111,117,116,32]++xZ (4*k) [110,111,116,32])++[116,114,117,101,59,32,125]:=rfl;have T1:=fun X=>QJ [98,114,101,97,107,59,32] (k*15) (by simp) (by omega) X
   have T2:=fun X=>QJ [110,111,116,32] (4*k) (by simp) (by omega) X
   have r1:=IQ (k*15) [98,114,101,97,107,59,32];have r2:=IQ (4*k) [110,111,116,32];simp only[List.length_cons,List.length_nil]at r1 r2;rw[e3,←aaB,←aaB]at L3
   rw[e5,←aaB,←aaB]at L5
   rw[show((k*15:Nat):Int)=(k:Int)*15 by omega]at T1
   rw[show((4*k:Nat):Int)=4*(k:Int)by omega]at T2
   clear e3 e5;have B2:=afn k;have B4:=afo k;generalize bt2 k=z2 at *;generalize bt4 k=z4 at *;generalize xZ (k*15) [98,114,101,97,107,59,32]=rp1 at *;generalize xZ (4*k) [110,111,116,32]=rp2 at *;have hB2:=Lib.hid B2;have hB4:=Lib.hid B4;clear B2 B4
   have hRG:Hid (k≤64→∃R:List Ck.Node,R≠[]∧(kU z2).1=R∧(∀g c X,Vars X→J4 R g X→(R.length≤c∧c≤maxLen)→Calls Tryz.prog 9 #[.slice (some ⟨g,0,none⟩) R.length c,.string ⟨#[102]⟩] X fun e w'=>e=.returned (.int .i64 k)∧Fr [] X w')):=fun e=>by
    obtain⟨T,h1,h2,h3,_,_,h6⟩:=P2.out.1 e
    obtain⟨_,hG,hk⟩:=K4 h1 h2
    have hl:=afq h1;refine⟨T.row,by cases T;simp[Tree.row],h6,fun g c X hV hR hc=>?_⟩;have h7:=Qy UD T.n T.ks (by cases T;exact hG) hk (by have:=kg T;cases T;simp only[Tree.n,Tree.ks];omega) g c [102] T.row (by cases T;rfl) X hV hR hc;rw[show Tree.mk T.n T.ks=T by cases T;rfl,h3]at h7
    exact h7
   have Q2:Hid ((k≤64→c2=0∧a2=0)∧(64<k→c2=83)):=⟨fun e=>by obtain⟨_,_,_,_,h4,h5,_⟩:=P2.out.1 e;exact⟨h4,h5⟩,P2.out.2⟩
   clear P2;have N1:=fun X:World=>au.new X #[.int .i64 c1,.int .i64 a1] 26
   have G1:=fun(X:World) (h:Fr [] w X)=>h.alloc (.cells #[.int .i64 c1,.int .i64 a1] 26)
   have N2:=fun(b:Nat) (X:World) (h:b<X.heap.size)=>(au.blk h:au (Ck.blk X b #[.int .i64 c2,.int .i64 a2] 26) b #[.int .i64 c2,.int .i64 a2] 26)
   have G2:=fun(b:Nat) (X:World) (h:Fr [] w X) (hb:w.heap.size≤b)=>h.blk (b:=b) (.inr hb) #[.int .i64 c2,.int .i64 a2] 26
   have N3:=fun(b:Nat) (X:World) (h:b<X.heap.size)=>(au.blk h:au (Ck.blk X b #[.int .i64 c3,.int .i64 a3] 26) b #[.int .i64 c3,.int .i64 a3] 26)
   have G3:=fun(b:Nat) (X:World) (h:Fr [] w X) (hb:w.heap.size≤b)=>h.blk (b:=b) (.inr hb) #[.int .i64 c3,.int .i64 a3] 26
   have N4:=fun(b:Nat) (X:World) (h:b<X.heap.size)=>(au.blk h:au (Ck.blk X b #[.int .i64 c4,.int .i64 a4] 26) b #[.int .i64 c4,.int .i64 a4] 26)
   have G4:=fun(b:Nat) (X:World) (h:Fr [] w X) (hb:w.heap.size≤b)=>h.blk (b:=b) (.inr hb) #[.int .i64 c4,.int .i64 a4] 26
   have N5:=fun(b:Nat) (X:World) (h:b<X.heap.size)=>(au.blk h:au (Ck.blk X b #[.int .i64 c5,.int .i64 a5] 26) b #[.int .i64 c5,.int .i64 a5] 26)
   have G5:=fun(b:Nat) (X:World) (h:Fr [] w X) (hb:w.heap.size≤b)=>h.blk (b:=b) (.inr hb) #[.int .i64 c5,.int .i64 a5] 26
   have h5:k≤16∨(16<k∧k≤63)∨(63<k∧k≤64)∨(64<k∧k≤66)∨66<k:=by omega
   rcases h5 with h5|h5|h5|h5|h5;obtain rfl:=P1.out.1 (by omega);obtain⟨rfl,rfl⟩:=Q2.out.1 (by omega);obtain⟨R,hne,hro,hr⟩:=hRG.out (by omega);rw[hro]at L2;obtain rfl:=P3.out.1 (by omega);obtain rfl:=P4.out.1 (by omega);obtain rfl:=P5.out.1 (by omega);have dp:Hid (decide ((256:Int)<4*(k:Int)+4)=false):=by show _=_;simp;omega
   rotate_left;obtain rfl:=P1.out.1 (by omega);obtain⟨rfl,rfl⟩:=Q2.out.1 (by omega);obtain⟨R,hne,hro,hr⟩:=hRG.out (by omega);rw[hro]at L2;obtain rfl:=P3.out.1 (by omega);obtain rfl:=P4.out.2 (by omega);obtain rfl:=P5.out.1 (by omega);have dp:Hid (decide ((256:Int)<4*(k:Int)+4)=false):=by show _=_;simp;omega
   rotate_left;obtain rfl:=P1.out.1 (by omega);obtain⟨rfl,rfl⟩:=Q2.out.1 (by omega);obtain⟨R,hne,hro,hr⟩:=hRG.out (by omega);rw[hro]at L2;obtain rfl:=P3.out.1 (by omega);obtain rfl:=P4.out.2 (by omega);obtain rfl:=P5.out.2 (by omega);have dp:Hid (decide ((256:Int)<4*(k:Int)+4)=true):=by show _=_;simp;omega
   rotate_left;obtain⟨rfl,rfl⟩:=P1.out.2 (by omega);obtain rfl:=Q2.out.2 (by omega);obtain rfl:=P3.out.1 (by omega);obtain rfl:=P4.out.2 (by omega);obtain rfl:=P5.out.2 (by omega);have dp:Hid (decide ((256:Int)<4*(k:Int)+4)=true):=by show _=_;simp;omega
   rotate_left;obtain⟨rfl,rfl⟩:=P1.out.2 (by omega);obtain rfl:=Q2.out.2 (by omega);obtain⟨rfl,rfl⟩:=P3.out.2 (by omega);obtain rfl:=P4.out.2 (by omega);obtain rfl:=P5.out.2 (by omega);have dp:Hid (decide ((256:Int)<4*(k:Int)+4)=true):=by show _=_;simp;omega
   rotate_left
   all_goals clear P1 Q2 P3 P4 P5 hRG
   all_goals (
    go_wp2_with (go_at_call 8;refine(L1 _ (HV.out.fr hf0 (by simp))).mono ?_;rintro e w1 ⟨v1,rfl,af5,hf1⟩;obtain⟨va1,vc1,rfl⟩:=abr af5;have hb1:=N1 w1;obtain⟨q1,q2,q3,q4⟩:=hb1.rules;clear L1 af5)
    have PK:=Lib.hid (G1 _ (hf0.trans hf1));have HB1:=Lib.hid hb1;have hgl:=(hf0.trans hf1).size;generalize w1.heap.size=b at *;clear hb1 q1 q2 q3 q4 N1 G1 hf1 hf0
    go_loopw [3,7] (fun t i wr2=>∃(j:Nat) (y:Bytes),i=.int .i64 j∧j≤k∧t=.string ⟨y.toArray⟩∧y.length≤20*j+9∧Hid (y=bFn++upL f2 j)∧Hid (Fr [] w wr2)∧∃u v,Hid (au wr2 b #[u,v] 26)) (fun _ i _=>k-(intOf i).toNat)
    case atStart=>exact⟨0,bFn,rfl,Nat.zero_le _,rfl,by decide,Lib.hid (by simp[upL]),PK,_,_,HB1⟩
    case round =>
     clear PK HB1;obtain⟨j,y,rfl,hj,rfl,hyl,hy,hf,cu,cv,hB⟩:=hrel
     by_cases hlt:j<k
     ·have hdl:=aaR j
      go_wp2_with (go_at_call 7;refine(hD j (by omega) _).mono ?_;rintro e w1 ⟨rfl,hf1⟩)
      refine⟨⟨j+1,y++f2 j,by go_num,by omega,by unfold f2;simp only[←aaB],by have:=afk j;simp only[List.length_append];omega,Lib.hid ?_,Lib.hid (hf.out.trans hf1),_,_,Lib.hid (hB.out.fr hf1 (by simp))⟩,by simp[intOf];omega⟩;rw[hy.out];simp only[upL,List.append_assoc]
     ·obtain rfl:j=k:=by omega
      rw[hB2.out,←hy.out,←aaB]at L2
      have hf0:=hf.out;have hb0:=hB.out;clear hy hf hB hlt hB2;have hbl:=hb0.lt
      go_wp2_with (first
       | (go_at_call 8;revert hne;intro hne;refine(L2 _ (HV.out.fr hf0 (by simp))).mono ?_;rintro e w2 ⟨v2,rfl,hrow2,hf2⟩;obtain⟨g,c,rfl,hbg,NA,hcap⟩:=vg hrow2 hne;obtain⟨q1,q2,q3,q4⟩:=(hb0.fr hf2 (by simp)).rules;have hF2:=G2 b _ (hf0.trans hf2) hgl;have hR2:=NA.fr ((Fr.refl [b] w2).blk (.inl List.mem_cons_self) #[.int .i64 0,.int .i64 0] 26) (by simp;omega);clear L2 hrow2)
       | (go_at_call 9;refine(hr g c _ (HV.out.fr hF2 (by simp)) hR2 hcap).mono ?_;rintro e w3 ⟨rfl,hf3⟩;have Qn:=hF2.trans hf3;have hb3:=(N2 b w2 q4).fr hf3 (by simp);clear hr)
       | (go_at_call 8;refine(L2 _ (HV.out.fr hf0 (by simp))).mono ?_;rintro e w2 ⟨v2,rfl,hrow2,hf2⟩;obtain⟨sa2,sc2,rfl⟩:=abr hrow2;obtain⟨q1,q2,q3,q4⟩:=(hb0.fr hf2 (by simp)).rules;have Qn:=G2 b _ (hf0.trans hf2) hgl;have hb3:=N2 b w2 q4;clear L2 hrow2)
       | (go_at_call 10;refine(T1 _).mono ?_;rintro e w4 ⟨rfl,eY⟩;have WW:=Qn.trans eY;have hb4:=hb3.fr eY (by simp);clear T1)
       | (go_at_call 8;refine(L3 _ (HV.out.fr WW (by simp))).mono ?_;rintro e w5 ⟨v5,rfl,aaH,fF⟩;obtain⟨sa5,sc5,rfl⟩:=abr aaH;obtain⟨q1,q2,q3,q4⟩:=(hb4.fr fF (by simp)).rules;have kJ:=G3 b _ (WW.trans fF) hgl;have hb5:=N3 b w5 q4;clear L3 aaH))
      have nI:=Lib.hid kJ;have HB5:=Lib.hid hb5;clear hb5 kJ
      try clear hR2
      try clear NA
      try clear hcap
      try clear hbg
      try clear hF2
      try clear hb3
      try clear hb4
      try clear WW
      try clear Qn
      try clear hro
      try clear hne
      go_loopw [3,10] (fun t i wr3=>∃(i2:Nat) (z:Bytes),i=.int .i64 i2∧i2≤j∧t=.string ⟨z.toArray⟩∧z.length≤20*i2+9∧Hid (z=[102,110,32,102,40]++upL f4 i2)∧Hid (Fr [] w wr3)∧∃u v,Hid (au wr3 b #[u,v] 26)) (fun _ i _=>j-(intOf i).toNat)
      case atStart=>exact⟨0,[102,110,32,102,40],rfl,Nat.zero_le _,rfl,by decide,Lib.hid (by simp[upL]),nI,_,_,HB5⟩
      case round =>
       clear nI HB5;obtain⟨i2,z,rfl,hj2,rfl,hzl,hz,hf,cu2,cv2,hB⟩:=hrel
       by_cases hlt:i2<j
       ·have hdl:=aaR i2;by_cases h0:i2=0
        ·subst h0
         go_wp2_with (go_at_call 7;refine(hD 0 (by omega) _).mono ?_;rintro e w6 ⟨rfl,jA⟩)
         refine⟨⟨1,z++f4 0,by go_num,by omega,by unfold f4;simp only[←aaB];rfl,by have:=adP 0;simp only[List.length_append];omega,Lib.hid ?_,Lib.hid (hf.out.trans jA),_,_,Lib.hid (hB.out.fr jA (by simp))⟩,by simp[intOf];omega⟩;rw[hz.out];simp only[upL,List.append_assoc]
        ·have hi0:(0:Int)<i2:=by omega
         go_wp2_with (go_at_call 7;refine(hD i2 (by omega) _).mono ?_;rintro e w6 ⟨rfl,jA⟩)
         refine⟨⟨i2+1,z++f4 i2,by go_num,by omega,?_,by have:=adP i2;simp only[List.length_append];omega,Lib.hid ?_,Lib.hid (hf.out.trans jA),_,_,Lib.hid (hB.out.fr jA (by simp))⟩,by simp[intOf];omega⟩
         ·have e0:(i2==0)=false:=by rw[beq_eq_false_iff_ne];exact h0
          unfold f4;rw[e0];simp only[aaB,Bool.false_eq_true,if_false,List.append_assoc]
         ·rw[hz.out];simp only[upL,List.append_assoc]
       ·obtain rfl:i2=j:=by omega
        rw[hB4.out,←hz.out,←aaB]at L4
        have hf0:=hf.out;have hb0:=hB.out;clear hz hf hB hlt hB4;have dp1:=dp.out
        go_wp2_with (first
         | (go_at_call 8;refine(L4 _ (HV.out.fr hf0 (by simp))).mono ?_;rintro e w7 ⟨v7,rfl,af6,uU⟩;obtain⟨sa7,sc7,rfl⟩:=abr af6;obtain⟨q1,q2,q3,q4⟩:=(hb0.fr uU (by simp)).rules;have hF7:=G4 b _ (hf0.trans uU) hgl;have TM:=N4 b w7 q4;clear L4 af6)
         | (go_at_call 10;refine(T2 _).mono ?_;rintro e w8 ⟨rfl,vO⟩;have hF8:=hF7.trans vO;have hb8:=TM.fr vO (by simp);clear T2)
         | (go_at_call 8;refine(L5 _ (HV.out.fr hF8 (by simp))).mono ?_;rintro e w9 ⟨v9,rfl,BA,jC⟩;obtain⟨sa9,sc9,rfl⟩:=abr BA;obtain⟨q1,q2,q3,q4⟩:=(hb8.fr jC (by simp)).rules;have hF9:=G5 b _ (hF8.trans jC) hgl;clear L5 BA)
         | (go_at_call 11;refine(Eu _ (HV.out.fr hF9 (by simp))).mono ?_;rintro e Cv ⟨rfl,xR⟩))
        go_ret
        exact⟨rfl,hF9.trans xR⟩)
theorem adR (n:Int) (w:World) (hV:Vars w) :
  Calls Tryz.prog 3 #[.int .i64 n] w fun e w'=>e=.returned (.bool true)∧Fr [] w w':=by
 by_cases hg:0≤n∧n≤70
 ·have h:=aey n.toNat (by omega) w hV;rw[show((n.toNat:Nat):Int)=n by omega]at h
  exact h
 ·exact adQ n hg w
end Go.Proofs.YtoomapkcoibmhaaGreatDoor
end
