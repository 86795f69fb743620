/- A part of the proof. -/
import Derived.Test.YtoomapkcoibmhaaGreatDoorQ35
set_option maxRecDepth 100000
set_option maxHeartbeats 12800000
set_option linter.all false
section
open Go Go.Proofs Go.RowKit Go.Shelf Go.Maps Ck
namespace Go.Proofs.YtoomapkcoibmhaaGreatDoor
attribute [local go_sem] Oper.semAt_some
theorem Io {S:lH} {N:Nat} (ih:rR S N) (n:Ck.Node) (ks:List Tree) (rest:List Ck.Node) (i d k B:Nat) (s:CS) (ms:List Nat) (w:World) (hs:(Tree.mk n ks).size≤N+1) (hT:S.R.drop i=(Tree.mk n ks).row++rest) (hA:(Tree.mk n ks).all sK) (hms:ms≠[]) (hb:Bd s B) (hB:B+(Tree.mk n ks).size≤1099511627776) (hsc:s.scopes.length≤d) (hlp:s.loops.length≤d) (hd:d≤257) (hkk:k≤1099511627776) (hK:CK S s ms w)
  (WR:Hid (¬ks.length=4)) (t2:(n.kind==2)=false) (t3:(n.kind==3)=false) (t4:(n.kind==4)=false) (t5:(n.kind==5)=false) (t6:(n.kind==6)=false) (t10:(n.kind==10)=false) (t11:(n.kind==11)=true) (t12:(n.kind==12)=false) (t25:(n.kind==25)=false) (t7:(n.kind==7)=false) (t23:(n.kind==23)=false) (uw:(n.kind==13)=false) (uy:(n.kind==14)=false) :
  Calls Tryz.prog 29 #[.pointer (some ⟨S.bp,0,none⟩),.int .i64 (i:Int),.int .i64 (d:Int),.int .i64 (k:Int)] w (iq S ms w (jg S.E (Tree.mk n ks) d k s)):=by
 obtain⟨r,hr⟩:∃r,Hid (jg S.E (Tree.mk n ks) d k s=r):=⟨_,rfl⟩
 rw[hr.out]
 have HM:Hid ((need (decide (256<d)) 71 n.at' >>= fun _=>(need (decide (1000<(Tree.mk n ks).size)) 85 n.at' >>= fun _=>yY S.E ks (d+1) 0 n.text (if ks.length==4 then(ks.headD default).n.text else[]) s))=r):=by
  have h1:=hr.out;unfold jg at h1;simp only[t2,t3,t4,t5,t6,t10,t11,t12,t25,t7,t23,uw,uy,Bool.or_false,Bool.false_or,Bool.or_true,Bool.true_or,Bool.or_self,Bool.false_eq_true,if_true,if_false,reduceIte]at h1;exact h1
 clear hr;obtain⟨hrow,aD⟩:=bJ hT
 have o9:(Tree.mk n ks).size=sizes ks+1:=by simp[Tree.size]
 have hkl:ks.length≤sizes ks:=by rw[←bP];exact eZ ks
 have hil:(i:Int)<S.R.length:=by have:=(List.getElem?_eq_some_iff.1 aD).1;omega
 have hx:n.text.length≤140737488351232:=(hK.ok _ (List.mem_of_getElem? aD)).text;obtain⟨sv,lv,hb0,_,_⟩:=hK.ex
 obtain⟨rc,rz,bE,rb⟩:=hb0.rules
 have hlim:=hK.lim;have ko:=hK.rat.gl;obtain⟨rP,hgl,uW,n0,n1,n2,n3,n4,n5⟩:=Jg hK aD
 obtain⟨W5,gU⟩:∃X,X=nw S n i d ks w:=⟨_,rfl⟩
 obtain⟨kJ,k4,k5,k6,k8,k9,k10⟩:=gU ▸ npre S n i d ks w
 unfold nw at gU;have gP:=hK.fr kJ;obtain⟨Ko,Kq,hb5,_,_⟩:=gP.ex
 have hk:=dM S.bp S.R rest i S.g S.c n ks hT hlim W5 gP.rat _ hb5 rfl;have hcw:=aQ (S:=S) (ms:=ms) (w:=w) (decide (256<(d:Int))) 71 (ks.length:Int) (w.heap.size+1+1+1) n k8 gP.low HM (by simp;omega);have oJ:=Lib.hid gP;have HT:=Lib.hid hT;have HR:=Lib.hid hrow;have HN:=Lib.hid aD;have HA:=Lib.hid hA;have nI:=Lib.hid kJ;have Kr:=Lib.hid hK;have HB:=Lib.hid hb;clear gP hT hrow aD hA kJ hK hb hb5 HM hb0;have hdi:(d:Int)≤300:=by omega
 have hki:(k:Int)≤1099511627776:=by omega
 go_enter Tryz.func29,Tryz.ntmps29
 go_wp2_with (fail)
 go_region
 go_wp2_with (fail)
 rw[←gU];clear gU rc rz bE rb rP ko hgl uW n0 n1 n2 n3 n4 n5
 go_at_call 50
 refine hcw.mono ?_;clear hcw;rintro e1 w1 (⟨ft,rfl,hout⟩|⟨rfl,rfl,hq1,HM⟩)
 ·exact⟨rfl,hout⟩
 have hd2:d≤256:=by simpa using hq1
 obtain⟨c4,z4,s4,l4⟩:=k4.rules
 obtain⟨c5,z5,s5,l5⟩:=k5.rules
 go_wp2_with (fail)
 go_at_call 31
 refine hk.mono ?_;clear hk c4 z4 s4 l4 c5 z5 s5 l5;rintro e2 w2 ⟨v,rfl,hown,hf2⟩;obtain⟨g',cur,sa,sc,rfl,hgb,hcur,hsa,hcap⟩:=fZ hown (k5.fr hf2 (by simp))
 obtain⟨W,hW⟩:∃X,X=w2.alloc (.cells #[.slice sa ks.length sc] 36):=⟨_,rfl⟩
 have kK:Fr [] w2 W:=by rw[hW];exact(Fr.refl _ _).alloc _
 have aN:Fr [] W5 W:=hf2.trans kK
 have nf:NF S n i d ks w.heap.size (w.heap.size+1) (w.heap.size+1+1) (w.heap.size+1+1+1) (w.heap.size+1+1+1+1) (w.heap.size+1+1+1+1+1) w2.heap.size g' sc sa cur W :=
  ⟨k4.fr aN (by simp),k5.fr aN (by simp),k6.fr aN (by simp),k8.fr aN (by simp),k9.fr aN (by simp),k10.fr aN (by simp),by rw[hW];exact au.new _ _ _,hgb.fr kK (by simp),fun j q hj=>hcur j _ (by simp[gM,hj]),fun hne=>hsa (List.length_pos_iff.2 hne),hcap⟩
 have hKW:=oJ.out.fr aN;have hcW:Ct w W:=Ct.aC (nI.out.trans aN);clear kK aN hgb hcur hsa hown hf2 k4 k5 k6 k8 k9 k10 oJ nI
 go_upto_region 7 with(fail)
 rw[←hW];clear hW;generalize w2.heap.size=b12 at *;obtain⟨c8,z8,s8,l8⟩:=nf.h8.rules
 have hA2:=HA.out.1;have hml:=hKW.sets.length;have hbig:=zx S hlim { n with kids:=(ks.length:Int) } (Tree.mk n ks) rest i (w.heap.size+1+1+1) (w.heap.size+1+1+1+1) w.heap.size (w.heap.size+1) W HT.out hKW.hw nf.h8 nf.h9 nf.h4 nf.h5 (by omega)
 go_wp2_with (fail)
 go_at_call 52
 refine hbig.mono ?_;rintro e6 w6 (⟨hbg,rfl,jA⟩|⟨hbg,rfl,jA⟩)
 ·refine⟨rfl,.inl ⟨⟨85,n.at'⟩,?_,rfl,(hKW.fr jA).low⟩⟩;have h1:=HM.out;rw[show decide (1000<(Tree.mk n ks).size)=true from decide_eq_true hbg]at h1
  exact h1.symm
 have hk3:3≤ks.length:=hA2.2.1.1 (by simpa using t11);obtain⟨qD,b,hks⟩:∃qD b,ks=qD++[b]:=⟨ks.dropLast,ks.getLast (by rintro rfl;simp at hk3),(List.dropLast_concat_getLast (by rintro rfl;simp at hk3)).symm⟩
 obtain⟨m,hm⟩:∃m,qD.length=m:=⟨_,rfl⟩
 have hkm:ks.length=m+1:=by rw[hks];simp[hm]
 have abN:sizes ks=sizes qD+b.size:=by rw[hks,BO]
 have dW:Hid ((gu S.E qD (d+1) 0 s >>= fun s1=>(jg S.E b (d+1) m { s1 with loops:=([]:Bytes)::s1.loops,scopes:=[n.text]::s1.scopes } >>= fun s'=>pure { s' with loops:=s'.loops.tail,scopes:=s'.scopes.tail }))=r):=by
  have h1:=HM.out;rw[show decide (1000<(Tree.mk n ks).size)=false from decide_eq_false hbg]at h1
  have h2:yY S.E ks (d+1) 0 n.text (if ks.length==4 then(ks.headD default).n.text else[]) s=r:=h1;rw[WQ WR.out]at h2
  rw[hks,uZ,Nat.zero_add,hm]at h2
  exact h2
 replace nf:=nf.ct (Ct.aC jA);replace hKW:=hKW.fr jA;replace hcW:=hcW.trans (Ct.aC jA)
 have Us:S.R.drop (i+1)=rows qD++(b.row++rest):=by
  rw[HR.out,hks,dh];simp[rows]
 obtain⟨pb,hpb⟩:∃pb,i+1+(rows qD).length=pb:=⟨_,rfl⟩
 have WS:S.R.drop pb=b.row++rest:=by
  rw[←hpb,←List.drop_drop,Us];simp
 have hkp:kpos (i+1) ks=kpos (i+1) qD++[pb]:=by rw[hks,iN,hpb];rfl
 have Qe:(kpos (i+1) qD).length=m:=by rw[kT,hm]
 have Ip:cur[m]? = some (Value.int .i64 (pb:Int)):=nf.hc m pb (by rw[hkp,List.getElem?_append_right (by omega),Qe];simp)
 have hcI:∀(j q:Nat),(kpos (i+1) qD)[j]? = some q→cur[j]? = some (Value.int .i64 (q:Int)):=fun j q hj=>nf.hc j q (by
  rw[hkp,List.getElem?_append_left (List.getElem?_eq_some_iff.1 hj).1,hj])
 have KM:oH sK qD:=by
  have h1:=HA.out.2
  have:∀t∈qD,t.all sK:=fun t ht=>dN h1 t (by rw[hks];simp[ht])
  exact wD this
 have KN:b.all sK:=dN HA.out.2 b (by rw[hks];simp);obtain rfl:=nf.hsa (by rintro rfl;simp at hk3);have hmi:(ks.length:Int)-1=(m:Int):=by omega
 have abO:(m:Int)≤1099511627776:=by omega
 have WT:(m:Int)≤sc:=by have:=nf.cap.1;omega
 have Ut:(sc:Int)≤9223372036854775807:=by have:=nf.cap.2;unfold maxLen at this;omega
 have abP:((m:Int)==3)=false:=by have:=WR.out;rw[beq_eq_false_iff_ne];omega
 have HKM:=Lib.hid hkm;have Ri:=Lib.hid hks;have HK3:=Lib.hid hk3;clear hbig HM hkm hks hk3 jA c8 z8 s8 l8 hkp Qe;have HM:=dW;clear dW;obtain⟨c12,z12,s12,Gi⟩:=nf.h12.rules
 obtain⟨W7,Sb⟩:∃X,X=w6.alloc (.cells #[.int .i64 (m:Int)] 3):=⟨_,rfl⟩
 have uU:Fr [] w6 W7:=by rw[Sb];exact(Fr.refl _ _).alloc _
 have mW:au W7 w6.heap.size #[.int .i64 (m:Int)] 3:=by rw[Sb];exact au.new _ _ _
 go_wp2_with (fail)
 rw[←Sb];clear Sb c12 z12 s12 Gi;replace nf:=nf.ct (Ct.aC uU);replace hKW:=hKW.fr uU;replace hcW:=hcW.trans (Ct.aC uU);clear uU;generalize w6.heap.size=b15 at *;have vE:=Bn ih qD (b.row++rest) (i+1) d B s ms W7.drew g' sc w.heap.size (w.heap.size+1+1) (some ⟨g',0,none⟩) cur (by omega) Us KM hms HB.out (by omega) (by omega) (by omega) (hKW.fr (Fr.refl [] _).drew) (by omega) (nf.hg.fr (Fr.refl [] _).drew List.not_mem_nil) hcI (fun _=>rfl) (nf.h4.fr (Fr.refl [] _).drew List.not_mem_nil) (nf.h6.fr (Fr.refl [] _).drew List.not_mem_nil);rw[hm]at vE
 have hS:(SM w.heap.size (w.heap.size+1+1) (w.heap.size+1+1+1+1+1) b12 b15 m (.slice (some ⟨g',0,none⟩) ks.length sc)) W7.drew:=⟨nf.h10.rules.1 0,nf.h12.rules.1 0,mW.rules.1 0⟩
 refine wp_region_held (S:=SM w.heap.size (w.heap.size+1+1) (w.heap.size+1+1+1+1+1) b12 b15 m (.slice (some ⟨g',0,none⟩) ks.length sc)) (by kernel_rfl) ?_;refine tk 0 (.func (.func 51) #[] #[.pointer (some ⟨w.heap.size,0,none⟩),.pointer (some ⟨w.heap.size+1+1,0,none⟩)]) rfl hS (fun X hX=>?_) ?_
 ·obtain⟨hX1,hX2,fP⟩:=hX;go_simp
 simp only[Act.put,acts];refine tk 1 (.slice (some ⟨g',0,none⟩) ks.length sc) rfl hS (fun X hX=>?_) ?_
 ·obtain⟨hX1,hX2,fP⟩:=hX;go_simp
 simp only[Act.put,acts];refine tk 2 (.int .i64 (m:Int)) rfl hS (fun X hX=>?_) ?_
 ·obtain⟨hX1,hX2,fP⟩:=hX;go_simp
 simp only[Act.put,acts];refine tk 3 (.slice (some ⟨g',0,none⟩) m sc) rfl hS (fun X hX=>?_) ?_
 ·go_simp
 simp only[Act.put,acts];refine wpAnyH_all (rs:=[4]) (by kernel_rfl) (by simp) ?_;intro i2 hi2;obtain rfl:i2=4:=by simpa using hi2
 refine wpOp_step rfl (fun K0 dz=>?_);rw[if_pos (by kernel_rfl)];go_simp;refine vE.mono ?_;rintro e7 wv ho;rcases ho.uq HM (hcW.trans (Ct.aC (Fr.refl [] _).drew)) with⟨ft,rfl,hout⟩|⟨s1,rfl,hK2,hC2,hok0,dD⟩
 ·exact⟨rfl,hout⟩
 have zh:Ct W7 wv:=(Ct.aC (Fr.refl [] _).drew).trans hC2;replace nf:=nf.ct zh;have xQ:=zh.kept _ _ _ (by decide) (by decide) (by decide) mW;refine dz _ _ ⟨⟨nf.h10.rules.1 0,nf.h12.rules.1 0,xQ.rules.1 0⟩,wpAnyH_done (by kernel_rfl) ?_ _⟩;replace hcW:=hcW.trans zh;clear hKW HM mW;have hKW:=hK2;have HM:=dD;have mW:=xQ;clear hK2 dD hS vE ho zh hC2 xQ;have uY:=nS S.E qD (d+1) 0 B s s1 (oG (fun _ _ h=>h.1) qD KM) HB.out hok0;have Ui:s1.scopes.length≤d:=by rw[←hKW.sets.length,hml];exact hsc
 have Uj:s1.loops.length≤d:=by rw[uY.2];exact hlp
 have Uk:=Lib.hid uY;have HML:=Lib.hid hml;clear uY hml;obtain⟨c15,z15,s15,l15⟩:=mW.rules
 obtain⟨sv,lv,hbk0,KG,KH⟩:=hKW.ex
 have hbk:=hbk0.fr (Fr.refl [] wv).drew (by simp);have hsr:=eH KG (Fr.refl [] wv).drew;have hlr:=eH KH (Fr.refl [] wv).drew;have BA:=mH hlr;have Nq:=hKW.fr (Fr.refl [] wv).drew;obtain⟨i0,hi0,hz0,hz1,hz2⟩:=info_parts Tryz.infoStr
 obtain⟨cb,zb,sb,lb9⟩:=hbk0.rules
 obtain⟨c4,z4,s4,l4⟩:=nf.h4.rules
 obtain⟨c8,z8,s8,l8⟩:=nf.h8.rules
 have Ul:=hKW.bw;have HB1:Hid (s1.loops.length+1≤maxLen):=by show _≤_;simp[maxLen];omega
 have HB2:Hid ((s1.loops.length+1)*16≤140737488355328):=by show _≤_;omega
 have HB3:Hid (S.base≤(wv.drew.alloc (.cells #[.string ⟨([]:Bytes).toArray⟩] 9)).heap.size):=by show _≤_;simp;omega
 have sP:∀k,lv.ownBlock=some k→∀c T,T≠9→au wv.drew k c T→False:=fun k e c T hT hB=>by
  obtain⟨_,c2,hB2⟩:=BA k e
  have:=hB2.symm.trans hB
  simp at this;exact hT this.2.symm
 have BD:∀k,lv.ownBlock=some k→k≠S.bp:=fun k e e2=>by subst e2;exact sP _ e _ _ (by decide) hbk
 have BF:=nf.h4.fr (Fr.refl [] wv).drew (by simp);have FQ:=nf.h8.fr (Fr.refl [] wv).drew (by simp);have FR:=nf.h9.fr (Fr.refl [] wv).drew (by simp);have h4N:∀k,lv.ownBlock=some k→k≠w.heap.size:=fun k e e2=>by subst e2;exact sP _ e _ _ (by decide) BF
 go_wp2_with (fail)
 go_cut [] (fun X=>Hid (CK S { s1 with loops:=([]:Bytes)::s1.loops } ms X∧Ct wv X))
 case first =>
  skip
  have hS:(SR S w.heap.size (w.heap.size+1+1+1) (w.heap.size+1+1+1+1) n.text) wv.drew:=nf.sr.drew;refine wp_region_held (S:=SR S w.heap.size (w.heap.size+1+1+1) (w.heap.size+1+1+1+1) n.text) (by kernel_rfl) ?_;refine tk 0 (.pointer (some ⟨S.bp,0,none⟩)) rfl hS (fun X hX=>?_) ?_
  ·obtain⟨hX1,hX2,fP⟩:=hX;go_simp
  simp only[Act.put,acts];refine tk 1 (.pointer (some ⟨S.bp,0,none⟩)) rfl hS (fun X hX=>?_) ?_
  ·obtain⟨hX1,hX2,fP⟩:=hX;go_simp
  simp only[Act.put,acts];refine tk 2 (.pointer (some ⟨S.bp,0,none⟩)) rfl hS (fun X hX=>?_) ?_
  ·go_simp
  simp only[Act.put,acts];refine tk 3 (.pointer (some ⟨S.bp,6,none⟩)) rfl hS (fun X hX=>?_) ?_
  ·go_simp
  simp only[Act.put,acts];refine tk 5 (.string ⟨([]:Bytes).toArray⟩) rfl hS (fun X hX=>?_) ?_
  ·go_simp
  simp only[Act.put,acts];refine wpAnyH_all (rs:=[4,6]) (by kernel_rfl) (by simp) ?_;intro i2 hi2;obtain rfl|rfl:i2=4∨i2=6:=by simpa using hi2
  ·refine wpOp_step rfl (fun K0 dz=>?_);rw[if_pos (by kernel_rfl)];go_simp;refine dz _ _ ⟨hS,?_⟩;refine wpAnyH_all (rs:=[6]) (by kernel_rfl) (by simp) ?_;intro i2 hi2;obtain rfl:i2=6:=by simpa using hi2
   refine wpOp_step rfl (fun K0 dz=>?_);rw[if_pos (by kernel_rfl)];go_simp;refine dz _ _ ⟨hS.fr ((Fr.refl [] _).alloc _),?_⟩;refine wpAnyH_all (rs:=[7]) (by kernel_rfl) (by simp) ?_;intro i2 hi2;obtain rfl:i2=7:=by simpa using hi2
   refine wpOp_step rfl (fun K0 dz=>?_);rw[if_pos (by kernel_rfl)];refine wp_append_lies _ (.tmp 221) (.tmp 223) 67 rfl S.base 9 i0 (.string ⟨#[]⟩) 1 16 Tryz.underlying67 hi0 hz0 hz1 hz2 rfl (by decide) lv s1.loops.length (cK s1.loops.reverse) rfl (hlr.alloc _) ⟨wv.heap.size,0,none⟩ 1 1 [.string ⟨([]:Bytes).toArray⟩] rfl rfl (cell_one_new _ _ _) (by simp[Value.oneCell']) Nat.one_pos HB1.out HB2.out HB3.out _ rfl ?_;intro g2 cap2 w8 dw fO ig lI;obtain⟨qc,qz,bS,qb⟩:=((hbk.alloc _).grown fO (fun e=>BD _ e rfl)).rules
   have BH:(SR S w.heap.size (w.heap.size+1+1+1) (w.heap.size+1+1+1+1) n.text) w8:=⟨((FR.alloc _).grown fO (fun e=>sP _ e _ _ (by decide) FR)).rules.1 0,((BF.alloc _).grown fO (fun e=>sP _ e _ _ (by decide) BF)).rules.1 0,((FQ.alloc _).grown fO (fun e=>sP _ e _ _ (by decide) FQ)).rules.1 3⟩
   obtain⟨q1,q2⟩:=CK.mU Nq hbk hsr hlr _ dw fO
   have BJ:=(Ct.aC (Fr.refl [] wv).drew).trans q2;refine dz _ _ ⟨BH,?_⟩;clear hS;have hS:=BH;refine tk 8 (.pointer (some ⟨S.bp,0,none⟩)) rfl hS (fun X hX=>?_) ?_
   ·go_simp
   simp only[Act.put,acts];refine tk 9 (.pointer (some ⟨S.bp,6,none⟩)) rfl hS (fun X hX=>?_) ?_
   ·go_simp
   simp only[Act.put,acts];refine wpAnyH_all (rs:=[10]) (by kernel_rfl) (by simp) ?_;intro i2 hi2;obtain rfl:i2=10:=by simpa using hi2
   refine wpOp_step rfl (fun K0 dz=>?_);rw[if_pos (by kernel_rfl)];go_simp;refine dz _ _ ⟨(nf.ct BJ).sr,wpAnyH_done (by kernel_rfl) ?_ _⟩;go_wp2
   go_meet
   case rel=>exact⟨q1,BJ⟩
  ·refine wpOp_step rfl (fun K0 dz=>?_);rw[if_pos (by kernel_rfl)];go_simp;refine dz _ _ ⟨hS.fr ((Fr.refl [] _).alloc _),?_⟩;refine wpAnyH_all (rs:=[4]) (by kernel_rfl) (by simp) ?_;intro i2 hi2;obtain rfl:i2=4:=by simpa using hi2
   refine wpOp_step rfl (fun K0 dz=>?_);rw[if_pos (by kernel_rfl)];go_simp;refine dz _ _ ⟨hS.fr ((Fr.refl [] _).alloc _),?_⟩;refine wpAnyH_all (rs:=[7]) (by kernel_rfl) (by simp) ?_;intro i2 hi2;obtain rfl:i2=7:=by simpa using hi2
   refine wpOp_step rfl (fun K0 dz=>?_);rw[if_pos (by kernel_rfl)];refine wp_append_lies _ (.tmp 221) (.tmp 223) 67 rfl S.base 9 i0 (.string ⟨#[]⟩) 1 16 Tryz.underlying67 hi0 hz0 hz1 hz2 rfl (by decide) lv s1.loops.length (cK s1.loops.reverse) rfl (hlr.alloc _) ⟨wv.heap.size,0,none⟩ 1 1 [.string ⟨([]:Bytes).toArray⟩] rfl rfl (cell_one_new _ _ _) (by simp[Value.oneCell']) Nat.one_pos HB1.out HB2.out HB3.out _ rfl ?_;intro g2 cap2 w8 dw fO ig lI;obtain⟨qc,qz,bS,qb⟩:=((hbk.alloc _).grown fO (fun e=>BD _ e rfl)).rules
   have BH:(SR S w.heap.size (w.heap.size+1+1+1) (w.heap.size+1+1+1+1) n.text) w8:=⟨((FR.alloc _).grown fO (fun e=>sP _ e _ _ (by decide) FR)).rules.1 0,((BF.alloc _).grown fO (fun e=>sP _ e _ _ (by decide) BF)).rules.1 0,((FQ.alloc _).grown fO (fun e=>sP _ e _ _ (by decide) FQ)).rules.1 3⟩
   obtain⟨q1,q2⟩:=CK.mU Nq hbk hsr hlr _ dw fO
   have BJ:=(Ct.aC (Fr.refl [] wv).drew).trans q2;refine dz _ _ ⟨BH,?_⟩;clear hS;have hS:=BH;refine tk 8 (.pointer (some ⟨S.bp,0,none⟩)) rfl hS (fun X hX=>?_) ?_
   ·go_simp
   simp only[Act.put,acts];refine tk 9 (.pointer (some ⟨S.bp,6,none⟩)) rfl hS (fun X hX=>?_) ?_
   ·go_simp
   simp only[Act.put,acts];refine wpAnyH_all (rs:=[10]) (by kernel_rfl) (by simp) ?_;intro i2 hi2;obtain rfl:i2=10:=by simpa using hi2
   refine wpOp_step rfl (fun K0 dz=>?_);rw[if_pos (by kernel_rfl)];go_simp;refine dz _ _ ⟨(nf.ct BJ).sr,wpAnyH_done (by kernel_rfl) ?_ _⟩;go_wp2
   go_meet
   case rel=>exact⟨q1,BJ⟩
 case' rest=>skip
 obtain⟨P9,Ih⟩:=hcut.out
 clear hcut;replace nf:=nf.ct Ih;replace hcW:=hcW.trans Ih;have xQ:=Ih.kept _ _ _ (by decide) (by decide) (by decide) mW;clear hKW Ih mW;have hKW:=P9;have mW:=xQ;clear P9 xQ;obtain⟨c4,z4,s4,l4⟩:=nf.h4.rules
 obtain⟨c8,z8,s8,l8⟩:=nf.h8.rules
 have hmm:=@run_makeMap Tryz.prog;have hB1:Bd { s1 with loops:=([]:Bytes)::s1.loops,scopes:=[n.text]::s1.scopes } (B+sizes qD+1):=((Uk.out.1.mono (Nat.le_succ _)).loops (([]:Bytes)::s1.loops)).push [n.text] (by simp);obtain⟨Cv,KO,hset,Qf⟩:=wE wc n.text (by simp[maxLen];omega)
 go_wp2_with (fail)
 have xR:Fr [] wc Cv:=((Fr.refl [] wc).alloc _).grown Qf (fun k e=>.inr (by injection e with e;omega));have xS:=nf.ct (Ct.aC xR);have Qg:=mW.fr xR List.not_mem_nil;have hin:=Bc #[.pointer (some ⟨w.heap.size,0,none⟩),.pointer (some ⟨b12,0,none⟩),.pointer (some ⟨b15,0,none⟩),.pointer (some ⟨w.heap.size+1+1,0,none⟩)] wc.heap.size [n.text] (jg S.E b (d+1) m { s1 with loops:=([]:Bytes)::s1.loops,scopes:=[n.text]::s1.scopes }) (hKW.fr xR) hset (qC hKW) hKW.bw (by show s1.scopes.length≤1000;omega) (fun w1 k1 q1=>Ee S (wc.heap.size::ms) _ g' ks.length sc m d pb cur w.heap.size b12 b15 (w.heap.size+1+1) w1 (xS.ct q1).h4 (xS.ct q1).h12 (q1.kept _ _ _ (by decide) (by decide) (by decide) Qg) (xS.ct q1).h6 (xS.ct q1).hg (by have:=HKM.out;omega) (by omega) (by omega) Ip (fun q=>ih b rest pb (d+1) m (B+sizes qD+1) _ (wc.heap.size::ms) (w1.drewN q) (by omega) WS KN (by simp) hB1 (by omega) (by simp;omega) (by simp;omega) (by omega) (by omega) (k1.fr ((Fr.refl [] _).drewN q))))
 go_at_call 56
 refine hin.mono ?_;have dD:=Lib.hid ((WO _).symm.trans HM.out);clear hin hmm c4 z4 s4 l4 c8 z8 s8 l8 HM;rintro e11 Kg ho;rcases ho.uq dD (hcW.trans (Ct.aC xR)) with⟨ft,rfl,hout⟩|⟨s3,rfl,hK2,hC2,Qh,HM⟩
 ·exact⟨rfl,hout⟩
 obtain⟨s4,Qi,Qj⟩:=yM Qh
 have Qk:=nC S.E b (d+1) m (B+sizes qD+1) _ s4 (mI (fun _ _ h=>h.1) b KN) hB1 Qi;have FU:s3.loops=([]:Bytes)::s1.loops:=by cases Qj;exact Qk.2
 replace nf:=xS.ct hC2;replace hcW:=(hcW.trans (Ct.aC xR)).trans hC2;clear hKW xS hset KO Qf xR Qh Qi Qj Qk ho hC2 mW Qg dD;have hKW:=hK2;clear hK2;obtain⟨sv3,lv3,b1,b2,b3⟩:=hKW.ex
 obtain⟨mm,hmm⟩:∃mm,s3.loops.length=mm+1:=⟨s1.loops.length,by rw[FU];rfl⟩
 have abT:mm≤300:=by rw[FU]at hmm;simp at hmm;omega
 rw[hmm]at b3
 obtain⟨g3,BL,rfl⟩:=ownsRow_succ b3
 have hnm:(mm:Int)≤300:=by omega
 have Qa:mm+1≤BL:=(bX b3).1;have hcap4:(BL:Int)≤9223372036854775807:=by have:=(bX b3).2;unfold maxLen at this;omega
 obtain⟨yc,yz,wm,yb⟩:=b1.rules
 obtain⟨c4,z4,s4',l4⟩:=nf.h4.rules
 have B1:=Lib.hid b1;have B2:=Lib.hid b2;have B3:=Lib.hid b3;have H9:=Lib.hid hKW;have HL3:=Lib.hid FU;have lG:=Lib.hid HM;have Um:=Lib.hid hcW;clear b1 b2 b3 hKW FU HM hcW hmm hB1 nf Ip hcI KM KN Us WS hok0;go_wp2
 go_region
 all_goals go_wp2
 all_goals go_end0
 all_goals
  obtain⟨hq,cq⟩:=H9.out.zw HL3.out B1.out B2.out B3.out
  exact .inr ⟨_,lG.out.out.symm,rfl,hq.fr (Fr.refl _ _).drew,(Um.out.trans cq).trans (Ct.aC (Fr.refl _ _).drew)⟩
end Go.Proofs.YtoomapkcoibmhaaGreatDoor
end
