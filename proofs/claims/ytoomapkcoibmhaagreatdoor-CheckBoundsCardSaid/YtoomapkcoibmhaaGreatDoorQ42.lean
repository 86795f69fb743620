/- A part of the proof. -/
import Derived.Test.YtoomapkcoibmhaaGreatDoorQ32
set_option maxRecDepth 100000
set_option maxHeartbeats 12800000
set_option linter.all false
section
open Go Go.Proofs Go.RowKit Go.Shelf Go.Maps Ck
namespace Go.Proofs.YtoomapkcoibmhaaGreatDoor
attribute [local go_sem] Oper.semAt_some
theorem Ii {S:lH} {N:Nat} (ih:rR S N) (n:Ck.Node) (ks:List Tree) (rest:List Ck.Node) (i d k B:Nat) (s:CS) (ms:List Nat) (w:World) (hs:(Tree.mk n ks).size≤N+1) (hT:S.R.drop i=(Tree.mk n ks).row++rest) (hA:(Tree.mk n ks).all sK) (hms:ms≠[]) (hb:Bd s B) (hB:B+(Tree.mk n ks).size≤1099511627776) (hsc:s.scopes.length≤d) (hlp:s.loops.length≤d) (hd:d≤257) (hkk:k≤1099511627776) (hK:CK S s ms w)
  (hx0:¬n.text=[]) (t2:(n.kind==2)=false) (t3:(n.kind==3)=false) (t4:(n.kind==4)=false) (t5:(n.kind==5)=false) (t6:(n.kind==6)=false) (t10:(n.kind==10)=true) (t11:(n.kind==11)=false) (t12:(n.kind==12)=false) (t25:(n.kind==25)=false) (t7:(n.kind==7)=false) (t23:(n.kind==23)=false) (uw:(n.kind==13)=false) (uy:(n.kind==14)=false) :
  Calls Tryz.prog 29 #[.pointer (some ⟨S.bp,0,none⟩),.int .i64 (i:Int),.int .i64 (d:Int),.int .i64 (k:Int)] w (iq S ms w (jg S.E (Tree.mk n ks) d k s)):=by
 obtain⟨r,hr⟩:∃r,Hid (jg S.E (Tree.mk n ks) d k s=r):=⟨_,rfl⟩
 rw[hr.out]
 have HM:Hid ((need (decide (256<d)) 71 n.at' >>= fun _=>(need (n.text != []&&s.loops.contains n.text) 80 n.at' >>= fun _=>need (decide (1000<(Tree.mk n ks).size)) 85 n.at' >>= fun _=>yX S.E ks (d+1) n.text s))=r):=by
  have h1:=hr.out;unfold jg at h1;simp only[t2,t3,t4,t5,t6,t10,t11,t12,t25,t7,t23,uw,uy,Bool.or_false,Bool.false_or,Bool.or_true,Bool.true_or,Bool.or_self,Bool.false_eq_true,if_true,if_false,reduceIte]at h1;exact h1
 clear hr;obtain⟨hrow,aD⟩:=bJ hT
 have o9:(Tree.mk n ks).size=sizes ks+1:=by simp[Tree.size]
 have hkl:ks.length≤sizes ks:=by rw[←bP];exact eZ ks
 have hil:(i:Int)<S.R.length:=by have:=(List.getElem?_eq_some_iff.1 aD).1;omega
 have hx:n.text.length≤140737488351232:=(hK.ok _ (List.mem_of_getElem? aD)).text;obtain⟨sv,lv,hb0,_,_⟩:=hK.ex
 obtain⟨rc,rz,bE,rb⟩:=hb0.rules
 have hlim:=hK.lim;have ko:=hK.rat.gl;obtain⟨rP,hgl,uW,n0,n1,n2,n3,n4,n5⟩:=Jg hK aD
 obtain⟨W5,gU⟩:∃X,X=nw S n i d ks w:=⟨_,rfl⟩
 obtain⟨kJ,k4,k5,k6,k8,k9,k10⟩:=gU ▸ npre S n i d ks w
 unfold nw at gU;have gP:=hK.fr kJ;obtain⟨Ko,Kq,hb5,_,_⟩:=gP.ex
 have hk:=dM S.bp S.R rest i S.g S.c n ks hT hlim W5 gP.rat _ hb5 rfl;have hcw:=aQ (S:=S) (ms:=ms) (w:=w) (decide (256<(d:Int))) 71 (ks.length:Int) (w.heap.size+1+1+1) n k8 gP.low HM (by simp;omega);have oJ:=Lib.hid gP;have HT:=Lib.hid hT;have HR:=Lib.hid hrow;have HN:=Lib.hid aD;have HA:=Lib.hid hA;have nI:=Lib.hid kJ;have Kr:=Lib.hid hK;have HB:=Lib.hid hb;clear gP hT hrow aD hA kJ hK hb hb5 HM hb0;have hdi:(d:Int)≤300:=by omega
 have hki:(k:Int)≤1099511627776:=by omega
 go_enter Tryz.func29,Tryz.ntmps29
 go_wp2_with (fail)
 go_region
 go_wp2_with (fail)
 rw[←gU];clear gU rc rz bE rb rP ko hgl uW n0 n1 n2 n3 n4 n5
 go_at_call 50
 refine hcw.mono ?_;clear hcw;rintro e1 w1 (⟨ft,rfl,hout⟩|⟨rfl,rfl,hq1,HM⟩)
 ·exact⟨rfl,hout⟩
 have hd2:d≤256:=by simpa using hq1
 obtain⟨c4,z4,s4,l4⟩:=k4.rules
 obtain⟨c5,z5,s5,l5⟩:=k5.rules
 go_wp2_with (fail)
 go_at_call 31
 refine hk.mono ?_;clear hk c4 z4 s4 l4 c5 z5 s5 l5;rintro e2 w2 ⟨v,rfl,hown,hf2⟩;obtain⟨g',cur,sa,sc,rfl,hgb,hcur,hsa,hcap⟩:=fZ hown (k5.fr hf2 (by simp))
 obtain⟨W,hW⟩:∃X,X=w2.alloc (.cells #[.slice sa ks.length sc] 36):=⟨_,rfl⟩
 have kK:Fr [] w2 W:=by rw[hW];exact(Fr.refl _ _).alloc _
 have aN:Fr [] W5 W:=hf2.trans kK
 have nf:NF S n i d ks w.heap.size (w.heap.size+1) (w.heap.size+1+1) (w.heap.size+1+1+1) (w.heap.size+1+1+1+1) (w.heap.size+1+1+1+1+1) w2.heap.size g' sc sa cur W :=
  ⟨k4.fr aN (by simp),k5.fr aN (by simp),k6.fr aN (by simp),k8.fr aN (by simp),k9.fr aN (by simp),k10.fr aN (by simp),by rw[hW];exact au.new _ _ _,hgb.fr kK (by simp),fun j q hj=>hcur j _ (by simp[gM,hj]),fun hne=>hsa (List.length_pos_iff.2 hne),hcap⟩
 have hKW:=oJ.out.fr aN;have hcW:Ct w W:=Ct.aC (nI.out.trans aN);clear kK aN hgb hcur hsa hown hf2 k4 k5 k6 k8 k9 k10 oJ nI
 go_upto_region 7 with(fail)
 rw[←hW];clear hW;generalize w2.heap.size=b12 at *;obtain⟨c8,z8,s8,l8⟩:=nf.h8.rules
 obtain⟨sv,lv,hbk,_,hlr⟩:=hKW.ex
 obtain⟨la,lc,rfl⟩:=gX hlr
 have hll:(s.loops.length:Int)≤300:=by omega
 have hcon:=fJ W.drew (.slice la s.loops.length lc) s.loops.reverse n.text (bO.fr (S:=[]) (oI hlr) (Fr.refl [] _).drew (fun _ _ _ _=>List.not_mem_nil)) (by rw[List.length_reverse];omega);rw[je]at hcon
 obtain⟨lb,hlb⟩:∃lb:Bool,s.loops.contains n.text=lb:=⟨_,rfl⟩
 rw[hlb]at hcon
 have PU:=Lib.hid hlb;clear hlb
 go_wp2_with (fail)
 cases lb with
 | true =>
  have hS:(SL S w.heap.size (w.heap.size+1+1+1) (w.heap.size+1+1+1+1) n.text (.slice la s.loops.length lc)) W.drew:=⟨nf.sr.drew,hbk.rules.1 6⟩
  refine wp_region_held (S:=SL S w.heap.size (w.heap.size+1+1+1) (w.heap.size+1+1+1+1) n.text (.slice la s.loops.length lc)) (by kernel_rfl) ?_;refine tk 0 (.func (.func 50) #[] #[.pointer (some ⟨w.heap.size+1+1+1,0,none⟩)]) rfl hS (fun X hX=>?_) ?_
  ·obtain⟨⟨hX1,hX2,fP⟩,jP⟩:=hX;go_simp
  simp only[Act.put,acts];refine tk 1 (.pointer (some ⟨w.heap.size+1+1+1,3,none⟩)) rfl hS (fun X hX=>?_) ?_
  ·go_simp
  simp only[Act.put,acts];refine tk 2 (.string ⟨n.text.toArray⟩) rfl hS (fun X hX=>?_) ?_
  ·obtain⟨⟨hX1,hX2,fP⟩,jP⟩:=hX;go_simp
  simp only[Act.put,acts];refine tk 3 (.bool true) rfl hS (fun X hX=>?_) ?_
  ·go_simp;try simp[hx0]
  simp only[Act.put,acts];refine tk 4 (.bool true) rfl hS (fun X hX=>?_) ?_
  ·go_simp
  simp only[Act.put,acts];refine tk 5 (.pointer (some ⟨S.bp,0,none⟩)) rfl hS (fun X hX=>?_) ?_
  ·obtain⟨⟨hX1,hX2,fP⟩,jP⟩:=hX;go_simp
  simp only[Act.put,acts];refine tk 6 (.pointer (some ⟨S.bp,0,none⟩)) rfl hS (fun X hX=>?_) ?_
  ·go_simp
  simp only[Act.put,acts];refine tk 7 (.pointer (some ⟨S.bp,6,none⟩)) rfl hS (fun X hX=>?_) ?_
  ·go_simp
  simp only[Act.put,acts];refine tk 8 (.slice la s.loops.length lc) rfl hS (fun X hX=>?_) ?_
  ·obtain⟨⟨hX1,hX2,fP⟩,jP⟩:=hX;go_simp
  simp only[Act.put,acts];refine tk 9 (.pointer (some ⟨w.heap.size+1+1+1,3,none⟩)) rfl hS (fun X hX=>?_) ?_
  ·go_simp
  simp only[Act.put,acts];refine tk 10 (.string ⟨n.text.toArray⟩) rfl hS (fun X hX=>?_) ?_
  ·obtain⟨⟨hX1,hX2,fP⟩,jP⟩:=hX;go_simp
  simp only[Act.put,acts];refine wpAnyH_all (rs:=[11]) (by kernel_rfl) (by simp) ?_;intro i2 hi2;obtain rfl:i2=11:=by simpa using hi2
  refine wpOp_step rfl (fun K0 dz=>?_);rw[if_pos (by kernel_rfl)];go_simp;refine hcon.mono ?_;rintro e3 w3 ⟨rfl,rfl⟩;refine dz _ _ ⟨hS,?_⟩;refine tk 12 (.bool true) rfl hS (fun X hX=>?_) ?_
  ·go_simp
  simp only[Act.put,acts];have iL:=aQ (S:=S) (ms:=ms) (w:=w) (true) 80 (ks.length:Int) (w.heap.size+1+1+1) n (nf.h8.fr (Fr.refl [] _).drew (by simp)) (hKW.fr (Fr.refl [] _).drew).low HM (by rw[PU.out];simp[hx0]);refine wpAnyH_all (rs:=[13]) (by kernel_rfl) (by simp) ?_;intro i2 hi2;obtain rfl:i2=13:=by simpa using hi2
  refine wpOp_step rfl (fun K0 dz=>?_);rw[if_pos (by kernel_rfl)];go_simp;refine iL.mono ?_;rintro e4 w4 (⟨ft,rfl,hout⟩|⟨_,_,hq2,_⟩)
  ·exact⟨rfl,hout⟩
  ·exfalso;rw[PU.out]at hq2
   simp at hq2;exact hx0 hq2
 | false =>
  have hcq:∀q,Calls Tryz.prog 61 #[.slice la s.loops.length lc,.string ⟨n.text.toArray⟩] (W.drewN q) fun e w''=>e=.returned (.bool false)∧∃m,w''=W.drewN m:=fun q=>Calls.quiet_of_same ((fJ (W.drewN q) (.slice la s.loops.length lc) s.loops.reverse n.text (bO.fr (S:=[]) (oI hlr) ((Fr.refl [] _).drewN q) (fun _ _ _ _=>List.not_mem_nil)) (by rw[List.length_reverse];omega)).mono (fun e w' h=>⟨by rw[h.1,je,PU.out],h.2.symm⟩))
  have KC:∀q,Calls Tryz.prog 50 #[.bool false,.int .i64 80,.pointer (some ⟨w.heap.size+1+1+1,0,none⟩)] (W.drewN q) fun e w''=>e=.returned (.tuple #[])∧∃m,w''=W.drewN m:=fun q=>Calls.quiet_of_same ((jG false 80 (w.heap.size+1+1+1) { n with kids:=(ks.length:Int) } (W.drewN q) (nf.h8.fr ((Fr.refl [] _).drewN q) List.not_mem_nil)).mono (fun e w' h=>by
   rcases h with⟨h,_⟩|⟨_,h1,h2⟩
   ·cases h
   ·exact⟨h1,h2.symm⟩))
  obtain⟨c4,z4,s4,l4⟩:=nf.h4.rules
  obtain⟨c9,z9,s9,l9⟩:=nf.h9.rules
  obtain⟨cb,zb,sb,lb0⟩:=hbk.rules
  have hA2:=HA.out.1;have hml:=hKW.sets.length;have hbig:=fun q=>zx S hlim { n with kids:=(ks.length:Int) } (Tree.mk n ks) rest i (w.heap.size+1+1+1) (w.heap.size+1+1+1+1) w.heap.size (w.heap.size+1) (W.drewN q) HT.out (hKW.hw.fr ((Fr.refl [] _).drewN q) List.not_mem_nil List.not_mem_nil) (nf.h8.fr ((Fr.refl [] _).drewN q) List.not_mem_nil) (nf.h9.fr ((Fr.refl [] _).drewN q) List.not_mem_nil) (nf.h4.fr ((Fr.refl [] _).drewN q) List.not_mem_nil) (nf.h5.fr ((Fr.refl [] _).drewN q) List.not_mem_nil) (by omega)
  have dD:Hid ((need (decide (1000<(Tree.mk n ks).size)) 85 n.at' >>= fun _=>yX S.E ks (d+1) n.text s)=r):=by
   have h1:=HM.out;have e1:(n.text != []&&s.loops.contains n.text)=false:=by rw[PU.out];simp
   rw[e1]at h1
   exact h1
  go_wp2_with (first|(go_quiet (first|(go_at_call 61;exact hcq _)|(go_at_call 50;exact KC _))))
  have HX0:=Lib.hid hx0;clear hx0
  go_at_call 52
  refine(hbig _).mono ?_
  rintro e6 w6 (⟨hbg,rfl,jA⟩|⟨hbg,rfl,jA⟩)
  ·refine⟨rfl,.inl ⟨⟨85,n.at'⟩,?_,rfl,(hKW.fr (((Fr.refl [] W).drewN _).trans jA)).low⟩⟩;have h1:=dD.out;rw[show decide (1000<(Tree.mk n ks).size)=true from decide_eq_true hbg]at h1
   exact h1.symm
  have dW:Hid (yX S.E ks (d+1) n.text s=r):=by
   have h1:=dD.out;rw[show decide (1000<(Tree.mk n ks).size)=false from decide_eq_false hbg]at h1
   exact h1
  have jK:Fr [] W w6:=((Fr.refl [] W).drewN _).trans jA;replace nf:=nf.ct (Ct.aC jK);replace hKW:=hKW.fr jK;replace hcW:=hcW.trans (Ct.aC jK);clear HM dD hbig hcq KC hcon c4 z4 s4 l4 c9 z9 s9 l9 cb zb sb lb0 c8 z8 s8 l8 hbk hlr jA jK;have HM:=dW;clear dW;have hn2:ks.length=2:=(hA2).2.2.1 (by simpa using t10)
  obtain⟨tc,tb,hks⟩:∃tc tb,ks=[tc,tb]:=by
   rcases ks with _|⟨a,_|⟨b,_|⟨c,l⟩⟩⟩<;>simp at hn2
   exact⟨a,b,rfl⟩
  have hk0:ks[0]? = some tc:=by rw[hks];rfl
  have hk1:ks[1]? = some tb:=by rw[hks];rfl
  have hsk:sizes ks=tc.size+tb.size:=by rw[hks];simp[sizes]
  obtain⟨p0,r0,hp0,hT0⟩:=jO HR.out hk0
  obtain⟨p1,r1,hp1,hT1⟩:=jO HR.out hk1
  have wB:=nf.hc 0 p0 hp0;have Bz:=nf.hc 1 p1 hp1;have KE:tc.all sK:=dN HA.out.2 tc (List.mem_of_getElem? hk0);have KF:tb.all sK:=dN HA.out.2 tb (List.mem_of_getElem? hk1);obtain rfl:=nf.hsa (by rintro rfl;cases hk0);have hl1:(1:Int)<ks.length:=by omega
  have P8:(0:Int)<ks.length:=by omega
  have HN2:=Lib.hid hn2;clear hn2;have hB0:Bd s B:=HB.out;have hq0:s.scopes.length≤d∧s.loops.length≤d:=⟨hsc,hlp⟩
  have Ri:=Lib.hid hks;have abE:=Lib.hid (And.intro hk0 hk1);clear hks hk0 hk1 hp0 hp1
  have dW:Hid ((jg S.E tc (d+1) 0 s >>= fun s1=>(jg S.E tb (d+1) 1 { s1 with loops:=n.text::s1.loops } >>= fun s'=>pure { s' with loops:=s'.loops.tail }))=r):=by
   have h1:=HM.out;rw[Ri.out]at h1
   unfold yX at h1;simp only[Hy]at h1;exact h1
  clear HM;have HM:=dW;clear dW
  have hcall:Calls Tryz.prog 29 #[.pointer (some ⟨S.bp,0,none⟩),.int .i64 (p0:Int),.int .i64 ((d:Int)+1),.int .i64 (0:Int)] w6.drew (iq S ms w6.drew (jg S.E tc (d+1) 0 (s))) :=
   ih tc r0 p0 (d+1) 0 (B) (s) ms w6.drew (by omega) hT0 (by exact KE) hms hB0 (by omega) (by have:=hq0.1;omega) (by have:=hq0.2;omega) (by omega) (by omega) (hKW.fr (Fr.refl [] _).drew)
  have hS:(SK S w.heap.size (w.heap.size+1+1) b12 g' 0 d p0 (.slice (some ⟨g',0,none⟩) ks.length sc)) w6.drew:=⟨nf.h4.rules.1 0,nf.h12.rules.1 0,(nf.hg.rules.1 0).trans wB,nf.h6.rules.1 0⟩
  go_wp2_with (fail)
  refine wp_region_held (S:=SK S w.heap.size (w.heap.size+1+1) b12 g' 0 d p0 (.slice (some ⟨g',0,none⟩) ks.length sc)) (by kernel_rfl) ?_;refine tk 0 (.pointer (some ⟨S.bp,0,none⟩)) rfl hS (fun X hX=>?_) ?_
  ·obtain⟨hX1,hX2,fP,jP⟩:=hX;go_simp
  simp only[Act.put,acts];refine tk 1 (.slice (some ⟨g',0,none⟩) ks.length sc) rfl hS (fun X hX=>?_) ?_
  ·obtain⟨hX1,hX2,fP,jP⟩:=hX;go_simp
  simp only[Act.put,acts];refine tk 2 (.pointer (some ⟨g',0,none⟩)) rfl hS (fun X hX=>?_) ?_
  ·go_simp;try (intro h9;subst h9;simp at P8)
  simp only[Act.put,acts];refine tk 3 (.int .i64 (p0:Int)) rfl hS (fun X hX=>?_) ?_
  ·obtain⟨hX1,hX2,fP,jP⟩:=hX;go_simp
  simp only[Act.put,acts];refine tk 4 (.int .i64 (d:Int)) rfl hS (fun X hX=>?_) ?_
  ·obtain⟨hX1,hX2,fP,jP⟩:=hX;go_simp
  simp only[Act.put,acts];refine tk 5 (.int .i64 ((d:Int)+1)) rfl hS (fun X hX=>?_) ?_
  ·go_simp;try (rw[Go.IntWalk.i64_in _ (by omega)])
  simp only[Act.put,acts];refine wpAnyH_all (rs:=[6]) (by kernel_rfl) (by simp) ?_;intro i2 hi2;obtain rfl:i2=6:=by simpa using hi2
  refine wpOp_step rfl (fun K0 dz=>?_);rw[if_pos (by kernel_rfl)];go_simp;refine hcall.mono ?_;rintro e6 w7 ho;rcases ho.uq HM (hcW.trans (Ct.aC (Fr.refl [] _).drew)) with⟨ft,rfl,hout⟩|⟨s1,rfl,hK2,hC2,hok0,dD⟩
  ·exact⟨rfl,hout⟩
  have zh:Ct w6 w7:=(Ct.aC (Fr.refl [] _).drew).trans hC2;replace nf:=nf.ct zh;refine dz _ _ ⟨⟨nf.h4.rules.1 0,nf.h12.rules.1 0,(nf.hg.rules.1 0).trans wB,nf.h6.rules.1 0⟩,wpAnyH_done (by kernel_rfl) ?_ _⟩;replace hcW:=hcW.trans zh;clear hKW HM;have hKW:=hK2;have HM:=dD;clear hK2 dD hS hcall ho zh hC2;have uY:=nC S.E tc (d+1) 0 B s s1 (mI (fun _ _ h=>h.1) tc KE) hB0 hok0;have Ui:s1.scopes.length≤d:=by rw[←hKW.sets.length,hml];exact hsc
  have Uj:s1.loops.length≤d:=by rw[uY.2];exact hlp
  have Uk:=Lib.hid uY;clear uY;obtain⟨sv,lv,hbk0,KG,KH⟩:=hKW.ex
  have hbk:=hbk0.fr (Fr.refl [] w7).drew (by simp);have hsr:=eH KG (Fr.refl [] w7).drew;have hlr:=eH KH (Fr.refl [] w7).drew;have BA:=mH hlr;have Nq:=hKW.fr (Fr.refl [] w7).drew;obtain⟨i0,hi0,hz0,hz1,hz2⟩:=info_parts Tryz.infoStr
  obtain⟨cb,zb,sb,lb9⟩:=hbk0.rules
  obtain⟨c4,z4,s4,l4⟩:=nf.h4.rules
  obtain⟨c8,z8,s8,l8⟩:=nf.h8.rules
  have Ul:=hKW.bw;have HB1:Hid (s1.loops.length+1≤maxLen):=by show _≤_;simp[maxLen];omega
  have HB2:Hid ((s1.loops.length+1)*16≤140737488355328):=by show _≤_;omega
  have HB3:Hid (S.base≤(w7.drew.alloc (.cells #[.string ⟨n.text.toArray⟩] 9)).heap.size):=by show _≤_;simp;omega
  have sP:∀k,lv.ownBlock=some k→∀c T,T≠9→au w7.drew k c T→False:=fun k e c T hT hB=>by
   obtain⟨_,c2,hB2⟩:=BA k e
   have:=hB2.symm.trans hB
   simp at this;exact hT this.2.symm
  have BD:∀k,lv.ownBlock=some k→k≠S.bp:=fun k e e2=>by subst e2;exact sP _ e _ _ (by decide) hbk
  have BF:=nf.h4.fr (Fr.refl [] w7).drew (by simp);have FQ:=nf.h8.fr (Fr.refl [] w7).drew (by simp);have FR:=nf.h9.fr (Fr.refl [] w7).drew (by simp);have h4N:∀k,lv.ownBlock=some k→k≠w.heap.size:=fun k e e2=>by subst e2;exact sP _ e _ _ (by decide) BF
  go_wp2_with (fail)
  go_cut [] (fun X=>Hid (CK S { s1 with loops:=n.text::s1.loops } ms X∧Ct w7 X))
  case first =>
   skip
   have hS:(SR S w.heap.size (w.heap.size+1+1+1) (w.heap.size+1+1+1+1) n.text) w7.drew:=nf.sr.drew;refine wp_region_held (S:=SR S w.heap.size (w.heap.size+1+1+1) (w.heap.size+1+1+1+1) n.text) (by kernel_rfl) ?_;refine tk 0 (.pointer (some ⟨S.bp,0,none⟩)) rfl hS (fun X hX=>?_) ?_
   ·obtain⟨hX1,hX2,fP⟩:=hX;go_simp
   simp only[Act.put,acts];refine tk 1 (.pointer (some ⟨S.bp,0,none⟩)) rfl hS (fun X hX=>?_) ?_
   ·obtain⟨hX1,hX2,fP⟩:=hX;go_simp
   simp only[Act.put,acts];refine tk 2 (.pointer (some ⟨S.bp,0,none⟩)) rfl hS (fun X hX=>?_) ?_
   ·go_simp
   simp only[Act.put,acts];refine tk 3 (.pointer (some ⟨S.bp,6,none⟩)) rfl hS (fun X hX=>?_) ?_
   ·go_simp
   simp only[Act.put,acts];refine tk 5 (.pointer (some ⟨w.heap.size+1+1+1,3,none⟩)) rfl hS (fun X hX=>?_) ?_
   ·go_simp
   simp only[Act.put,acts];refine tk 6 (.string ⟨n.text.toArray⟩) rfl hS (fun X hX=>?_) ?_
   ·obtain⟨hX1,hX2,fP⟩:=hX;go_simp
   simp only[Act.put,acts];refine wpAnyH_all (rs:=[4,7]) (by kernel_rfl) (by simp) ?_;intro i2 hi2;obtain rfl|rfl:i2=4∨i2=7:=by simpa using hi2
   ·refine wpOp_step rfl (fun K0 dz=>?_);rw[if_pos (by kernel_rfl)];go_simp;refine dz _ _ ⟨hS,?_⟩;refine wpAnyH_all (rs:=[7]) (by kernel_rfl) (by simp) ?_;intro i2 hi2;obtain rfl:i2=7:=by simpa using hi2
    refine wpOp_step rfl (fun K0 dz=>?_);rw[if_pos (by kernel_rfl)];go_simp;refine dz _ _ ⟨hS.fr ((Fr.refl [] _).alloc _),?_⟩;refine wpAnyH_all (rs:=[8]) (by kernel_rfl) (by simp) ?_;intro i2 hi2;obtain rfl:i2=8:=by simpa using hi2
    refine wpOp_step rfl (fun K0 dz=>?_);rw[if_pos (by kernel_rfl)];refine wp_append_lies _ (.tmp 165) (.tmp 168) 67 rfl S.base 9 i0 (.string ⟨#[]⟩) 1 16 Tryz.underlying67 hi0 hz0 hz1 hz2 rfl (by decide) lv s1.loops.length (cK s1.loops.reverse) rfl (hlr.alloc _) ⟨w7.heap.size,0,none⟩ 1 1 [.string ⟨n.text.toArray⟩] rfl rfl (cell_one_new _ _ _) (by simp[Value.oneCell']) Nat.one_pos HB1.out HB2.out HB3.out _ rfl ?_;intro g2 cap2 w8 dw fO ig lI;obtain⟨qc,qz,bS,qb⟩:=((hbk.alloc _).grown fO (fun e=>BD _ e rfl)).rules
    have BH:(SR S w.heap.size (w.heap.size+1+1+1) (w.heap.size+1+1+1+1) n.text) w8:=⟨((FR.alloc _).grown fO (fun e=>sP _ e _ _ (by decide) FR)).rules.1 0,((BF.alloc _).grown fO (fun e=>sP _ e _ _ (by decide) BF)).rules.1 0,((FQ.alloc _).grown fO (fun e=>sP _ e _ _ (by decide) FQ)).rules.1 3⟩
    obtain⟨q1,q2⟩:=CK.mU Nq hbk hsr hlr _ dw fO
    have BJ:=(Ct.aC (Fr.refl [] w7).drew).trans q2;refine dz _ _ ⟨BH,?_⟩;clear hS;have hS:=BH;refine tk 9 (.pointer (some ⟨S.bp,0,none⟩)) rfl hS (fun X hX=>?_) ?_
    ·go_simp
    simp only[Act.put,acts];refine tk 10 (.pointer (some ⟨S.bp,6,none⟩)) rfl hS (fun X hX=>?_) ?_
    ·go_simp
    simp only[Act.put,acts];refine wpAnyH_all (rs:=[11]) (by kernel_rfl) (by simp) ?_;intro i2 hi2;obtain rfl:i2=11:=by simpa using hi2
    refine wpOp_step rfl (fun K0 dz=>?_);rw[if_pos (by kernel_rfl)];go_simp;refine dz _ _ ⟨(nf.ct BJ).sr,wpAnyH_done (by kernel_rfl) ?_ _⟩;go_wp2
    go_meet
    case rel=>exact⟨q1,BJ⟩
   ·refine wpOp_step rfl (fun K0 dz=>?_);rw[if_pos (by kernel_rfl)];go_simp;refine dz _ _ ⟨hS.fr ((Fr.refl [] _).alloc _),?_⟩;refine wpAnyH_all (rs:=[4]) (by kernel_rfl) (by simp) ?_;intro i2 hi2;obtain rfl:i2=4:=by simpa using hi2
    refine wpOp_step rfl (fun K0 dz=>?_);rw[if_pos (by kernel_rfl)];go_simp;refine dz _ _ ⟨hS.fr ((Fr.refl [] _).alloc _),?_⟩;refine wpAnyH_all (rs:=[8]) (by kernel_rfl) (by simp) ?_;intro i2 hi2;obtain rfl:i2=8:=by simpa using hi2
    refine wpOp_step rfl (fun K0 dz=>?_);rw[if_pos (by kernel_rfl)];refine wp_append_lies _ (.tmp 165) (.tmp 168) 67 rfl S.base 9 i0 (.string ⟨#[]⟩) 1 16 Tryz.underlying67 hi0 hz0 hz1 hz2 rfl (by decide) lv s1.loops.length (cK s1.loops.reverse) rfl (hlr.alloc _) ⟨w7.heap.size,0,none⟩ 1 1 [.string ⟨n.text.toArray⟩] rfl rfl (cell_one_new _ _ _) (by simp[Value.oneCell']) Nat.one_pos HB1.out HB2.out HB3.out _ rfl ?_;intro g2 cap2 w8 dw fO ig lI;obtain⟨qc,qz,bS,qb⟩:=((hbk.alloc _).grown fO (fun e=>BD _ e rfl)).rules
    have BH:(SR S w.heap.size (w.heap.size+1+1+1) (w.heap.size+1+1+1+1) n.text) w8:=⟨((FR.alloc _).grown fO (fun e=>sP _ e _ _ (by decide) FR)).rules.1 0,((BF.alloc _).grown fO (fun e=>sP _ e _ _ (by decide) BF)).rules.1 0,((FQ.alloc _).grown fO (fun e=>sP _ e _ _ (by decide) FQ)).rules.1 3⟩
    obtain⟨q1,q2⟩:=CK.mU Nq hbk hsr hlr _ dw fO
    have BJ:=(Ct.aC (Fr.refl [] w7).drew).trans q2;refine dz _ _ ⟨BH,?_⟩;clear hS;have hS:=BH;refine tk 9 (.pointer (some ⟨S.bp,0,none⟩)) rfl hS (fun X hX=>?_) ?_
    ·go_simp
    simp only[Act.put,acts];refine tk 10 (.pointer (some ⟨S.bp,6,none⟩)) rfl hS (fun X hX=>?_) ?_
    ·go_simp
    simp only[Act.put,acts];refine wpAnyH_all (rs:=[11]) (by kernel_rfl) (by simp) ?_;intro i2 hi2;obtain rfl:i2=11:=by simpa using hi2
    refine wpOp_step rfl (fun K0 dz=>?_);rw[if_pos (by kernel_rfl)];go_simp;refine dz _ _ ⟨(nf.ct BJ).sr,wpAnyH_done (by kernel_rfl) ?_ _⟩;go_wp2
    go_meet
    case rel=>exact⟨q1,BJ⟩
  case' rest=>skip
  obtain⟨P9,Ih⟩:=hcut.out
  clear hcut;replace nf:=nf.ct Ih;replace hcW:=hcW.trans Ih;clear hKW Ih;have hKW:=P9;clear P9;have hB1:Bd { s1 with loops:=n.text::s1.loops } (B+tc.size):=Uk.out.1.loops _;have hq1:s1.scopes.length≤d+1∧(n.text::s1.loops).length≤d+1:=⟨by omega,by simp;omega⟩
  have hcall:Calls Tryz.prog 29 #[.pointer (some ⟨S.bp,0,none⟩),.int .i64 (p1:Int),.int .i64 ((d:Int)+1),.int .i64 (1:Int)] wc.drew (iq S ms wc.drew (jg S.E tb (d+1) 1 ({ s1 with loops:=n.text::s1.loops }))) :=
   ih tb r1 p1 (d+1) 1 (B+tc.size) ({ s1 with loops:=n.text::s1.loops }) ms wc.drew (by omega) hT1 (by exact KF) hms hB1 (by omega) (by have:=hq1.1;omega) (by have:=hq1.2;omega) (by omega) (by omega) (hKW.fr (Fr.refl [] _).drew)
  have hS:(SK S w.heap.size (w.heap.size+1+1) b12 g' 1 d p1 (.slice (some ⟨g',0,none⟩) ks.length sc)) wc.drew:=⟨nf.h4.rules.1 0,nf.h12.rules.1 0,(nf.hg.rules.1 1).trans Bz,nf.h6.rules.1 0⟩
  go_wp2_with (fail)
  refine wp_region_held (S:=SK S w.heap.size (w.heap.size+1+1) b12 g' 1 d p1 (.slice (some ⟨g',0,none⟩) ks.length sc)) (by kernel_rfl) ?_;refine tk 0 (.pointer (some ⟨S.bp,0,none⟩)) rfl hS (fun X hX=>?_) ?_
  ·obtain⟨hX1,hX2,fP,jP⟩:=hX;go_simp
  simp only[Act.put,acts];refine tk 1 (.slice (some ⟨g',0,none⟩) ks.length sc) rfl hS (fun X hX=>?_) ?_
  ·obtain⟨hX1,hX2,fP,jP⟩:=hX;go_simp
  simp only[Act.put,acts];refine tk 2 (.pointer (some ⟨g',1,none⟩)) rfl hS (fun X hX=>?_) ?_
  ·go_simp;try (intro h9;subst h9;simp at P8)
  simp only[Act.put,acts];refine tk 3 (.int .i64 (p1:Int)) rfl hS (fun X hX=>?_) ?_
  ·obtain⟨hX1,hX2,fP,jP⟩:=hX;go_simp
  simp only[Act.put,acts];refine tk 4 (.int .i64 (d:Int)) rfl hS (fun X hX=>?_) ?_
  ·obtain⟨hX1,hX2,fP,jP⟩:=hX;go_simp
  simp only[Act.put,acts];refine tk 5 (.int .i64 ((d:Int)+1)) rfl hS (fun X hX=>?_) ?_
  ·go_simp;try (rw[Go.IntWalk.i64_in _ (by omega)])
  simp only[Act.put,acts];refine wpAnyH_all (rs:=[6]) (by kernel_rfl) (by simp) ?_;intro i2 hi2;obtain rfl:i2=6:=by simpa using hi2
  refine wpOp_step rfl (fun K0 dz=>?_);rw[if_pos (by kernel_rfl)];go_simp;refine hcall.mono ?_;rintro e6 w9 ho;rcases ho.uq HM (hcW.trans (Ct.aC (Fr.refl [] _).drew)) with⟨ft,rfl,hout⟩|⟨s3,rfl,hK2,hC2,hok1,dD⟩
  ·exact⟨rfl,hout⟩
  have zh:Ct wc w9:=(Ct.aC (Fr.refl [] _).drew).trans hC2;replace nf:=nf.ct zh;refine dz _ _ ⟨⟨nf.h4.rules.1 0,nf.h12.rules.1 0,(nf.hg.rules.1 1).trans Bz,nf.h6.rules.1 0⟩,wpAnyH_done (by kernel_rfl) ?_ _⟩;replace hcW:=hcW.trans zh;clear hKW HM;have hKW:=hK2;have HM:=dD;clear hK2 dD hS hcall ho zh hC2;have FT:=nC S.E tb (d+1) 1 (B+tc.size) { s1 with loops:=n.text::s1.loops } s3 (mI (fun _ _ h=>h.1) tb KF) hB1 hok1;obtain⟨sv3,lv3,b1,b2,b3⟩:=hKW.ex
  obtain⟨m,hm⟩:∃m,s3.loops.length=m+1:=⟨s1.loops.length,by rw[FT.2];rfl⟩
  have dH:m≤300:=by rw[FT.2]at hm;simp at hm;omega
  rw[hm]at b3
  obtain⟨g3,BL,rfl⟩:=ownsRow_succ b3
  have hnm:(m:Int)≤300:=by omega
  have Qa:m+1≤BL:=(bX b3).1;have hcap4:(BL:Int)≤9223372036854775807:=by have:=(bX b3).2;unfold maxLen at this;omega
  obtain⟨yc,yz,wm,yb⟩:=b1.rules
  obtain⟨c4,z4,s4,l4⟩:=nf.h4.rules
  have B1:=Lib.hid b1;have B2:=Lib.hid b2;have B3:=Lib.hid b3;have H9:=Lib.hid hKW;have HB3:=Lib.hid FT;have lG:=Lib.hid HM;have Um:=Lib.hid hcW;clear b1 b2 b3 hKW FT HM hcW hm hB1 hq1 hB0 hq0 wB Bz hT0 hT1 KE KF hok0 hok1 hml hA2 nf;go_wp2
  go_region
  all_goals go_wp2
  all_goals go_end0
  all_goals
   obtain⟨hq,cq⟩:=H9.out.zw HB3.out.2 B1.out B2.out B3.out
   exact .inr ⟨_,lG.out.symm,rfl,hq.fr (Fr.refl _ _).drew,(Um.out.trans cq).trans (Ct.aC (Fr.refl _ _).drew)⟩
end Go.Proofs.YtoomapkcoibmhaaGreatDoor
end
