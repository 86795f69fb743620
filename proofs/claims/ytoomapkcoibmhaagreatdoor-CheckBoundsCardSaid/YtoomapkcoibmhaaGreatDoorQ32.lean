/- A part of the proof. -/
import Derived.Test.YtoomapkcoibmhaaGreatDoorQ31
set_option maxRecDepth 100000
set_option maxHeartbeats 12800000
set_option linter.all false
section
open Go Go.Proofs Go.RowKit Go.Shelf Go.Maps Ck
namespace Go.Proofs.YtoomapkcoibmhaaGreatDoor
attribute [local go_sem] Oper.semAt_some
theorem Nj {S:lH} {N:Nat} (ih:rR S N) (n:Ck.Node) (ks:List Tree) (rest:List Ck.Node) (i d k B:Nat) (s:CS) (ms:List Nat) (w:World) (hs:(Tree.mk n ks).size≤N+1) (hT:S.R.drop i=(Tree.mk n ks).row++rest) (hA:(Tree.mk n ks).all sK) (hms:ms≠[]) (hb:Bd s B) (hB:B+(Tree.mk n ks).size≤1099511627776) (hsc:s.scopes.length≤d) (hlp:s.loops.length≤d) (hd:d≤257) (hkk:k≤1099511627776) (hK:CK S s ms w)
  (t2:(n.kind==2)=false) (t3:(n.kind==3)=false) (t4:(n.kind==4)=true) (t5:(n.kind==5)=false) (t6:(n.kind==6)=false) (t10:(n.kind==10)=false) (t11:(n.kind==11)=false) (t12:(n.kind==12)=false) (t25:(n.kind==25)=false) (t7:(n.kind==7)=false) (t23:(n.kind==23)=false) (uw:(n.kind==13)=false) (uy:(n.kind==14)=false) :
  Calls Tryz.prog 29 #[.pointer (some ⟨S.bp,0,none⟩),.int .i64 (i:Int),.int .i64 (d:Int),.int .i64 (k:Int)] w (iq S ms w (jg S.E (Tree.mk n ks) d k s)):=by
 obtain⟨r,hr⟩:∃r,Hid (jg S.E (Tree.mk n ks) d k s=r):=⟨_,rfl⟩
 rw[hr.out]
 have HM:Hid ((need (decide (256<d)) 71 n.at' >>= fun _=>(need (s.top.contains n.text) 80 n.at' >>= fun _=>need (decide (16≤k)) 81 n.at' >>= fun _=>gu S.E ks (d+1) 0 (s.add n.text)))=r):=by
  have h1:=hr.out;unfold jg at h1;simp only[t2,t3,t4,t5,t6,t10,t11,t12,t25,t7,t23,uw,uy,Bool.or_false,Bool.false_or,Bool.or_true,Bool.true_or,Bool.or_self,Bool.false_eq_true,if_true,if_false,reduceIte]at h1;exact h1
 clear hr;obtain⟨hrow,aD⟩:=bJ hT
 have o9:(Tree.mk n ks).size=sizes ks+1:=by simp[Tree.size]
 have hkl:ks.length≤sizes ks:=by rw[←bP];exact eZ ks
 have hil:(i:Int)<S.R.length:=by have:=(List.getElem?_eq_some_iff.1 aD).1;omega
 have hx:n.text.length≤140737488351232:=(hK.ok _ (List.mem_of_getElem? aD)).text;obtain⟨sv,lv,hb0,_,_⟩:=hK.ex
 obtain⟨rc,rz,bE,rb⟩:=hb0.rules
 have hlim:=hK.lim;have ko:=hK.rat.gl;obtain⟨rP,hgl,uW,n0,n1,n2,n3,n4,n5⟩:=Jg hK aD
 obtain⟨W5,gU⟩:∃X,X=nw S n i d ks w:=⟨_,rfl⟩
 obtain⟨kJ,k4,k5,k6,k8,k9,k10⟩:=gU ▸ npre S n i d ks w
 unfold nw at gU;have gP:=hK.fr kJ;obtain⟨Ko,Kq,hb5,_,_⟩:=gP.ex
 have hk:=dM S.bp S.R rest i S.g S.c n ks hT hlim W5 gP.rat _ hb5 rfl;have hcw:=aQ (S:=S) (ms:=ms) (w:=w) (decide (256<(d:Int))) 71 (ks.length:Int) (w.heap.size+1+1+1) n k8 gP.low HM (by simp;omega);have oJ:=Lib.hid gP;have HT:=Lib.hid hT;have HR:=Lib.hid hrow;have HN:=Lib.hid aD;have HA:=Lib.hid hA;have nI:=Lib.hid kJ;have Kr:=Lib.hid hK;have HB:=Lib.hid hb;clear gP hT hrow aD hA kJ hK hb hb5 HM hb0;have hdi:(d:Int)≤300:=by omega
 have hki:(k:Int)≤1099511627776:=by omega
 go_enter Tryz.func29,Tryz.ntmps29
 go_wp2_with (fail)
 go_region
 go_wp2_with (fail)
 rw[←gU];clear gU rc rz bE rb rP ko hgl uW n0 n1 n2 n3 n4 n5
 go_at_call 50
 refine hcw.mono ?_;clear hcw;rintro e1 w1 (⟨ft,rfl,hout⟩|⟨rfl,rfl,hq1,HM⟩)
 ·exact⟨rfl,hout⟩
 have hd2:d≤256:=by simpa using hq1
 obtain⟨c4,z4,s4,l4⟩:=k4.rules
 obtain⟨c5,z5,s5,l5⟩:=k5.rules
 go_wp2_with (fail)
 go_at_call 31
 refine hk.mono ?_;clear hk c4 z4 s4 l4 c5 z5 s5 l5;rintro e2 w2 ⟨v,rfl,hown,hf2⟩;obtain⟨g',cur,sa,sc,rfl,hgb,hcur,hsa,hcap⟩:=fZ hown (k5.fr hf2 (by simp))
 obtain⟨W,hW⟩:∃X,X=w2.alloc (.cells #[.slice sa ks.length sc] 36):=⟨_,rfl⟩
 have kK:Fr [] w2 W:=by rw[hW];exact(Fr.refl _ _).alloc _
 have aN:Fr [] W5 W:=hf2.trans kK
 have nf:NF S n i d ks w.heap.size (w.heap.size+1) (w.heap.size+1+1) (w.heap.size+1+1+1) (w.heap.size+1+1+1+1) (w.heap.size+1+1+1+1+1) w2.heap.size g' sc sa cur W :=
  ⟨k4.fr aN (by simp),k5.fr aN (by simp),k6.fr aN (by simp),k8.fr aN (by simp),k9.fr aN (by simp),k10.fr aN (by simp),by rw[hW];exact au.new _ _ _,hgb.fr kK (by simp),fun j q hj=>hcur j _ (by simp[gM,hj]),fun hne=>hsa (List.length_pos_iff.2 hne),hcap⟩
 have hKW:=oJ.out.fr aN;have hcW:Ct w W:=Ct.aC (nI.out.trans aN);clear kK aN hgb hcur hsa hown hf2 k4 k5 k6 k8 k9 k10 oJ nI
 go_upto_region 7 with(fail)
 rw[←hW];clear hW;generalize w2.heap.size=b12 at *;obtain⟨c8,z8,s8,l8⟩:=nf.h8.rules
 obtain⟨m,ms,rfl⟩:∃m ms',ms=m::ms':=by
  cases ms with
  | nil=>exact absurd rfl hms
  | cons m ms'=>exact⟨m,ms',rfl⟩
 have htp:=zu (hKW.fr (Fr.refl [] _).drew);have hset:=hKW.A8
 go_wp2_with (fail)
 have hS:(SR S w.heap.size (w.heap.size+1+1+1) (w.heap.size+1+1+1+1) n.text) W.drew:=nf.sr.drew;refine wp_region_held (S:=SR S w.heap.size (w.heap.size+1+1+1) (w.heap.size+1+1+1+1) n.text) (by kernel_rfl) ?_;refine tk 0 (.func (.func 50) #[] #[.pointer (some ⟨w.heap.size+1+1+1,0,none⟩)]) rfl hS (fun X hX=>?_) ?_
 ·obtain⟨hX1,hX2,fP⟩:=hX;go_simp
 simp only[Act.put,acts];refine tk 1 (.pointer (some ⟨S.bp,0,none⟩)) rfl hS (fun X hX=>?_) ?_
 ·obtain⟨hX1,hX2,fP⟩:=hX;go_simp
 simp only[Act.put,acts];refine tk 3 (.pointer (some ⟨w.heap.size+1+1+1,3,none⟩)) rfl hS (fun X hX=>?_) ?_
 ·go_simp
 simp only[Act.put,acts];refine tk 4 (.string ⟨n.text.toArray⟩) rfl hS (fun X hX=>?_) ?_
 ·obtain⟨hX1,hX2,fP⟩:=hX;go_simp
 simp only[Act.put,acts];refine wpAnyH_all (rs:=[2]) (by kernel_rfl) (by simp) ?_;intro i2 hi2;obtain rfl:i2=2:=by simpa using hi2
 refine wpOp_step rfl (fun K0 dz=>?_);rw[if_pos (by rfl)];go_simp;refine htp.mono ?_;rintro e3 w3 ⟨rfl,hf3⟩;have uX:Fr [] W w3:=((Fr.refl [] _).drew).trans hf3;have Oq:=hS.fr hf3;clear hS;have hS:=Oq;have hhas:=qZ m s.top n.text (by simp[maxLen];omega) w3 (hset.fr uX);obtain⟨tb,htb⟩:∃tb:Bool,s.top.contains n.text=tb:=⟨_,rfl⟩
 rw[htb]at hhas
 have PV:=Lib.hid htb;clear htb;refine dz _ _ ⟨hS,?_⟩;refine wpAnyH_all (rs:=[5]) (by kernel_rfl) (by simp) ?_;intro i2 hi2;obtain rfl:i2=5:=by simpa using hi2
 refine wpOp_step rfl (fun K0 dz=>?_);rw[if_pos (by rfl)];go_simp;refine hhas.mono ?_;rintro e5 w5 ⟨rfl,fF⟩;have ru:Fr [] W w5:=uX.trans fF;have hS5:=hS.fr fF;clear hS;have hS:=hS5;refine dz _ _ ⟨hS,?_⟩;have iL:=aQ (S:=S) (ms:=m::ms) (w:=w) (tb) 80 (ks.length:Int) (w.heap.size+1+1+1) n (nf.h8.fr ru (by simp)) (hKW.fr ru).low HM (PV.out.symm);refine wpAnyH_all (rs:=[6]) (by kernel_rfl) (by simp) ?_;intro i2 hi2;obtain rfl:i2=6:=by simpa using hi2
 refine wpOp_step rfl (fun K0 dz=>?_);rw[if_pos (by rfl)];go_simp;refine iL.mono ?_;rintro e4 V (⟨ft,rfl,hout⟩|⟨rfl,oK,hq2,HM⟩)
 ·exact⟨rfl,hout⟩
 have jK:Fr [] W V:=by rw[←oK];exact ru
 replace nf:=nf.ct (Ct.aC jK);replace hKW:=hKW.fr jK;replace hcW:=hcW.trans (Ct.aC jK);refine dz _ _ ⟨by rw[←oK];exact hS,wpAnyH_done (by kernel_rfl) ?_ _⟩;clear oK jK;clear htp hset hf3 uX Oq hhas fF ru hS5 hS;clear iL;have Tq:=aQ (S:=S) (ms:=m::ms) (w:=w) (decide (16≤(k:Int))) 81 (ks.length:Int) (w.heap.size+1+1+1) n nf.h8 hKW.low HM (by simp;try omega);obtain⟨c9,z9,s9,l9⟩:=nf.h9.rules
 go_wp2_with (fail)
 go_at_call 50
 refine Tq.mono ?_;clear Tq c9 z9 s9 l9;rintro e8 V2 (⟨ft,rfl,hout⟩|⟨rfl,rfl,hq3,HM⟩)
 ·exact⟨rfl,hout⟩
 have htp:=zu (hKW.fr (Fr.refl [] _).drew);have hset:=hKW.A8
 go_wp2_with (fail)
 have hS:(SR S w.heap.size (w.heap.size+1+1+1) (w.heap.size+1+1+1+1) n.text) V.drew:=nf.sr.drew;refine wp_region_held (S:=SR S w.heap.size (w.heap.size+1+1+1) (w.heap.size+1+1+1+1) n.text) (by kernel_rfl) ?_;refine tk 0 (.pointer (some ⟨S.bp,0,none⟩)) rfl hS (fun X hX=>?_) ?_
 ·obtain⟨hX1,hX2,fP⟩:=hX;go_simp
 simp only[Act.put,acts];refine tk 2 (.pointer (some ⟨w.heap.size+1+1+1,3,none⟩)) rfl hS (fun X hX=>?_) ?_
 ·go_simp
 simp only[Act.put,acts];refine tk 3 (.string ⟨n.text.toArray⟩) rfl hS (fun X hX=>?_) ?_
 ·obtain⟨hX1,hX2,fP⟩:=hX;go_simp
 simp only[Act.put,acts];refine tk 4 (.agg #[]) rfl hS (fun X hX=>?_) ?_
 ·go_simp
 simp only[Act.put,acts];refine wpAnyH_all (rs:=[1]) (by kernel_rfl) (by simp) ?_;intro i2 hi2;obtain rfl:i2=1:=by simpa using hi2
 refine wpOp_step rfl (fun K0 dz=>?_);rw[if_pos (by rfl)];go_simp;refine htp.mono ?_;rintro e6 w6 ⟨rfl,jA⟩;have ze:Fr [] V w6:=((Fr.refl [] _).drew).trans jA;refine dz _ _ ⟨hS.fr jA,?_⟩;obtain⟨nn,D,hown,hnn,hhas⟩:=hset.fr ze
 have hnl:nn<maxLen:=by have:=Bd.top HB.out;simp[maxLen];omega
 refine wpAnyH_all (rs:=[5]) (by kernel_rfl) (by simp) ?_;intro i2 hi2;obtain rfl:i2=5:=by simpa using hi2
 refine wpOp_step rfl (fun K0 dz=>?_);rw[if_pos (by rfl)];refine jB w6 _ _ _ 64 rfl 9 70 l6 Tryz.underlying64 unitElem m nn D rfl hown hnl _ _ _ rfl rfl (uj (by simp[maxLen];omega)) (.agg []) [] unitElem_mk ?_;intro w7 wu R4;obtain⟨Rh,R5⟩:=(hKW.fr ze).PG (x:=n.text) (by simp[maxLen];omega) hnn hown.isMap hhas wu R4
 have Dj:Ct V w7:=(Ct.aC ze).trans R5;replace nf:=nf.ct Dj;refine dz _ _ ⟨nf.sr,wpAnyH_done (by kernel_rfl) ?_ _⟩;clear dz hS htp hset;have abB:=hcW.trans Dj;have vE:=nf.each ih rest (B+1) _ (m::ms) (by omega) HR.out HA.out.2 hms (HB.out.add n.text) (by have h1:=Rh.sets.length;have h2:=hKW.sets.length;omega) (by show s.loops.length≤_;omega) (by omega) Rh (by omega);obtain⟨c10,Oo,s10,l10⟩:=nf.h10.rules
 obtain⟨c12,z12,s12,Gi⟩:=nf.h12.rules
 go_wp2_with (fail)
 go_at_call 51
 refine vE.mono ?_;rintro e5 w5 ho;rcases ho.last HM abB with⟨ft,h1,rfl,h3⟩|⟨s2,h1,rfl,K2,C2⟩
 ·exact⟨rfl,.inl ⟨ft,h1,rfl,h3⟩⟩
 ·go_wp2
  go_end0
  exact .inr ⟨s2,h1,rfl,K2,C2⟩
theorem Nk {S:lH} {N:Nat} (ih:rR S N) (n:Ck.Node) (ks:List Tree) (rest:List Ck.Node) (i d k B:Nat) (s:CS) (ms:List Nat) (w:World) (hs:(Tree.mk n ks).size≤N+1) (hT:S.R.drop i=(Tree.mk n ks).row++rest) (hA:(Tree.mk n ks).all sK) (hms:ms≠[]) (hb:Bd s B) (hB:B+(Tree.mk n ks).size≤1099511627776) (hsc:s.scopes.length≤d) (hlp:s.loops.length≤d) (hd:d≤257) (hkk:k≤1099511627776) (hK:CK S s ms w)
  (t2:(n.kind==2)=false) (t3:(n.kind==3)=false) (t4:(n.kind==4)=false) (t5:(n.kind==5)=false) (t6:(n.kind==6)=true) (t10:(n.kind==10)=false) (t11:(n.kind==11)=false) (t12:(n.kind==12)=false) (t25:(n.kind==25)=false) (t7:(n.kind==7)=false) (t23:(n.kind==23)=false) (uw:(n.kind==13)=false) (uy:(n.kind==14)=false) :
  Calls Tryz.prog 29 #[.pointer (some ⟨S.bp,0,none⟩),.int .i64 (i:Int),.int .i64 (d:Int),.int .i64 (k:Int)] w (iq S ms w (jg S.E (Tree.mk n ks) d k s)):=by
 obtain⟨r,hr⟩:∃r,Hid (jg S.E (Tree.mk n ks) d k s=r):=⟨_,rfl⟩
 rw[hr.out]
 have HM:Hid ((need (decide (256<d)) 71 n.at' >>= fun _=>(need (s.top.contains n.text) 80 n.at' >>= fun _=>gu S.E ks (d+1) 0 s >>= fun s=>pure (s.add n.text)))=r):=by
  have h1:=hr.out;unfold jg at h1;simp only[t2,t3,t4,t5,t6,t10,t11,t12,t25,t7,t23,uw,uy,Bool.or_false,Bool.false_or,Bool.or_true,Bool.true_or,Bool.or_self,Bool.false_eq_true,if_true,if_false,reduceIte]at h1;exact h1
 clear hr;obtain⟨hrow,aD⟩:=bJ hT
 have o9:(Tree.mk n ks).size=sizes ks+1:=by simp[Tree.size]
 have hkl:ks.length≤sizes ks:=by rw[←bP];exact eZ ks
 have hil:(i:Int)<S.R.length:=by have:=(List.getElem?_eq_some_iff.1 aD).1;omega
 have hx:n.text.length≤140737488351232:=(hK.ok _ (List.mem_of_getElem? aD)).text;obtain⟨sv,lv,hb0,_,_⟩:=hK.ex
 obtain⟨rc,rz,bE,rb⟩:=hb0.rules
 have hlim:=hK.lim;have ko:=hK.rat.gl;obtain⟨rP,hgl,uW,n0,n1,n2,n3,n4,n5⟩:=Jg hK aD
 obtain⟨W5,gU⟩:∃X,X=nw S n i d ks w:=⟨_,rfl⟩
 obtain⟨kJ,k4,k5,k6,k8,k9,k10⟩:=gU ▸ npre S n i d ks w
 unfold nw at gU;have gP:=hK.fr kJ;obtain⟨Ko,Kq,hb5,_,_⟩:=gP.ex
 have hk:=dM S.bp S.R rest i S.g S.c n ks hT hlim W5 gP.rat _ hb5 rfl;have hcw:=aQ (S:=S) (ms:=ms) (w:=w) (decide (256<(d:Int))) 71 (ks.length:Int) (w.heap.size+1+1+1) n k8 gP.low HM (by simp;omega);have oJ:=Lib.hid gP;have HT:=Lib.hid hT;have HR:=Lib.hid hrow;have HN:=Lib.hid aD;have HA:=Lib.hid hA;have nI:=Lib.hid kJ;have Kr:=Lib.hid hK;have HB:=Lib.hid hb;clear gP hT hrow aD hA kJ hK hb hb5 HM hb0;have hdi:(d:Int)≤300:=by omega
 have hki:(k:Int)≤1099511627776:=by omega
 go_enter Tryz.func29,Tryz.ntmps29
 go_wp2_with (fail)
 go_region
 go_wp2_with (fail)
 rw[←gU];clear gU rc rz bE rb rP ko hgl uW n0 n1 n2 n3 n4 n5
 go_at_call 50
 refine hcw.mono ?_;clear hcw;rintro e1 w1 (⟨ft,rfl,hout⟩|⟨rfl,rfl,hq1,HM⟩)
 ·exact⟨rfl,hout⟩
 have hd2:d≤256:=by simpa using hq1
 obtain⟨c4,z4,s4,l4⟩:=k4.rules
 obtain⟨c5,z5,s5,l5⟩:=k5.rules
 go_wp2_with (fail)
 go_at_call 31
 refine hk.mono ?_;clear hk c4 z4 s4 l4 c5 z5 s5 l5;rintro e2 w2 ⟨v,rfl,hown,hf2⟩;obtain⟨g',cur,sa,sc,rfl,hgb,hcur,hsa,hcap⟩:=fZ hown (k5.fr hf2 (by simp))
 obtain⟨W,hW⟩:∃X,X=w2.alloc (.cells #[.slice sa ks.length sc] 36):=⟨_,rfl⟩
 have kK:Fr [] w2 W:=by rw[hW];exact(Fr.refl _ _).alloc _
 have aN:Fr [] W5 W:=hf2.trans kK
 have nf:NF S n i d ks w.heap.size (w.heap.size+1) (w.heap.size+1+1) (w.heap.size+1+1+1) (w.heap.size+1+1+1+1) (w.heap.size+1+1+1+1+1) w2.heap.size g' sc sa cur W :=
  ⟨k4.fr aN (by simp),k5.fr aN (by simp),k6.fr aN (by simp),k8.fr aN (by simp),k9.fr aN (by simp),k10.fr aN (by simp),by rw[hW];exact au.new _ _ _,hgb.fr kK (by simp),fun j q hj=>hcur j _ (by simp[gM,hj]),fun hne=>hsa (List.length_pos_iff.2 hne),hcap⟩
 have hKW:=oJ.out.fr aN;have hcW:Ct w W:=Ct.aC (nI.out.trans aN);clear kK aN hgb hcur hsa hown hf2 k4 k5 k6 k8 k9 k10 oJ nI
 go_upto_region 7 with(fail)
 rw[←hW];clear hW;generalize w2.heap.size=b12 at *;obtain⟨c8,z8,s8,l8⟩:=nf.h8.rules
 obtain⟨m,ms,rfl⟩:∃m ms',ms=m::ms':=by
  cases ms with
  | nil=>exact absurd rfl hms
  | cons m ms'=>exact⟨m,ms',rfl⟩
 have htp:=zu (hKW.fr (Fr.refl [] _).drew);have hset:=hKW.A8
 go_wp2_with (fail)
 have hS:(SR S w.heap.size (w.heap.size+1+1+1) (w.heap.size+1+1+1+1) n.text) W.drew:=nf.sr.drew;refine wp_region_held (S:=SR S w.heap.size (w.heap.size+1+1+1) (w.heap.size+1+1+1+1) n.text) (by kernel_rfl) ?_;refine tk 0 (.func (.func 50) #[] #[.pointer (some ⟨w.heap.size+1+1+1,0,none⟩)]) rfl hS (fun X hX=>?_) ?_
 ·obtain⟨hX1,hX2,fP⟩:=hX;go_simp
 simp only[Act.put,acts];refine tk 1 (.pointer (some ⟨S.bp,0,none⟩)) rfl hS (fun X hX=>?_) ?_
 ·obtain⟨hX1,hX2,fP⟩:=hX;go_simp
 simp only[Act.put,acts];refine tk 3 (.pointer (some ⟨w.heap.size+1+1+1,3,none⟩)) rfl hS (fun X hX=>?_) ?_
 ·go_simp
 simp only[Act.put,acts];refine tk 4 (.string ⟨n.text.toArray⟩) rfl hS (fun X hX=>?_) ?_
 ·obtain⟨hX1,hX2,fP⟩:=hX;go_simp
 simp only[Act.put,acts];refine wpAnyH_all (rs:=[2]) (by kernel_rfl) (by simp) ?_;intro i2 hi2;obtain rfl:i2=2:=by simpa using hi2
 refine wpOp_step rfl (fun K0 dz=>?_);rw[if_pos (by rfl)];go_simp;refine htp.mono ?_;rintro e3 w3 ⟨rfl,hf3⟩;have uX:Fr [] W w3:=((Fr.refl [] _).drew).trans hf3;have Oq:=hS.fr hf3;clear hS;have hS:=Oq;have hhas:=qZ m s.top n.text (by simp[maxLen];omega) w3 (hset.fr uX);obtain⟨tb,htb⟩:∃tb:Bool,s.top.contains n.text=tb:=⟨_,rfl⟩
 rw[htb]at hhas
 have PV:=Lib.hid htb;clear htb;refine dz _ _ ⟨hS,?_⟩;refine wpAnyH_all (rs:=[5]) (by kernel_rfl) (by simp) ?_;intro i2 hi2;obtain rfl:i2=5:=by simpa using hi2
 refine wpOp_step rfl (fun K0 dz=>?_);rw[if_pos (by rfl)];go_simp;refine hhas.mono ?_;rintro e5 w5 ⟨rfl,fF⟩;have ru:Fr [] W w5:=uX.trans fF;have hS5:=hS.fr fF;clear hS;have hS:=hS5;refine dz _ _ ⟨hS,?_⟩;have iL:=aQ (S:=S) (ms:=m::ms) (w:=w) (tb) 80 (ks.length:Int) (w.heap.size+1+1+1) n (nf.h8.fr ru (by simp)) (hKW.fr ru).low HM (PV.out.symm);refine wpAnyH_all (rs:=[6]) (by kernel_rfl) (by simp) ?_;intro i2 hi2;obtain rfl:i2=6:=by simpa using hi2
 refine wpOp_step rfl (fun K0 dz=>?_);rw[if_pos (by rfl)];go_simp;refine iL.mono ?_;rintro e4 V (⟨ft,rfl,hout⟩|⟨rfl,oK,hq2,HM⟩)
 ·exact⟨rfl,hout⟩
 have jK:Fr [] W V:=by rw[←oK];exact ru
 replace nf:=nf.ct (Ct.aC jK);replace hKW:=hKW.fr jK;replace hcW:=hcW.trans (Ct.aC jK);refine dz _ _ ⟨by rw[←oK];exact hS,wpAnyH_done (by kernel_rfl) ?_ _⟩;clear oK jK;clear htp hset hf3 uX Oq hhas fF ru hS5 hS;clear iL;have vE:=nf.each ih rest B s (m::ms) (by omega) HR.out HA.out.2 hms HB.out (by omega) (by omega) (by omega) hKW (by omega);obtain⟨c10,Oo,s10,l10⟩:=nf.h10.rules
 obtain⟨c12,z12,s12,Gi⟩:=nf.h12.rules
 go_wp2_with (fail)
 go_at_call 51
 refine vE.mono ?_;clear vE c10 Oo s10 l10 c12 z12 s12 Gi;rintro e5 V2 ho;rcases ho.uq HM hcW with⟨ft,rfl,hout⟩|⟨s2,rfl,hK2,hC2,hok,dD⟩
 ·exact⟨rfl,hout⟩
 have hb2:=(nS S.E ks (d+1) 0 B s s2 (oG (fun _ _ h=>h.1) ks HA.out.2) HB.out hok).1;replace nf:=nf.ct hC2;replace hcW:=hcW.trans hC2;clear hKW;have hKW:=hK2;clear hK2 ho;have htp:=zu (hKW.fr (Fr.refl [] _).drew);have hset:=hKW.A8
 go_wp2_with (fail)
 have hS:(SR S w.heap.size (w.heap.size+1+1+1) (w.heap.size+1+1+1+1) n.text) V2.drew:=nf.sr.drew;refine wp_region_held (S:=SR S w.heap.size (w.heap.size+1+1+1) (w.heap.size+1+1+1+1) n.text) (by kernel_rfl) ?_;refine tk 0 (.pointer (some ⟨S.bp,0,none⟩)) rfl hS (fun X hX=>?_) ?_
 ·obtain⟨hX1,hX2,fP⟩:=hX;go_simp
 simp only[Act.put,acts];refine tk 2 (.pointer (some ⟨w.heap.size+1+1+1,3,none⟩)) rfl hS (fun X hX=>?_) ?_
 ·go_simp
 simp only[Act.put,acts];refine tk 3 (.string ⟨n.text.toArray⟩) rfl hS (fun X hX=>?_) ?_
 ·obtain⟨hX1,hX2,fP⟩:=hX;go_simp
 simp only[Act.put,acts];refine tk 4 (.agg #[]) rfl hS (fun X hX=>?_) ?_
 ·go_simp
 simp only[Act.put,acts];refine wpAnyH_all (rs:=[1]) (by kernel_rfl) (by simp) ?_;intro i2 hi2;obtain rfl:i2=1:=by simpa using hi2
 refine wpOp_step rfl (fun K0 dz=>?_);rw[if_pos (by rfl)];go_simp;refine htp.mono ?_;rintro e6 w6 ⟨rfl,jA⟩;have ze:Fr [] V2 w6:=((Fr.refl [] _).drew).trans jA;refine dz _ _ ⟨hS.fr jA,?_⟩;obtain⟨nn,D,hown,hnn,hhas⟩:=hset.fr ze
 have hnl:nn<maxLen:=by have:=Bd.top hb2;simp[maxLen];omega
 refine wpAnyH_all (rs:=[5]) (by kernel_rfl) (by simp) ?_;intro i2 hi2;obtain rfl:i2=5:=by simpa using hi2
 refine wpOp_step rfl (fun K0 dz=>?_);rw[if_pos (by rfl)];refine jB w6 _ _ _ 64 rfl 9 70 l6 Tryz.underlying64 unitElem m nn D rfl hown hnl _ _ _ rfl rfl (uj (by simp[maxLen];omega)) (.agg []) [] unitElem_mk ?_;intro w7 wu R4;obtain⟨Rh,R5⟩:=(hKW.fr ze).PG (x:=n.text) (by simp[maxLen];omega) hnn hown.isMap hhas wu R4
 have Dj:Ct V2 w7:=(Ct.aC ze).trans R5;replace nf:=nf.ct Dj;refine dz _ _ ⟨nf.sr,wpAnyH_done (by kernel_rfl) ?_ _⟩;go_wp2
 go_end0
 exact .inr ⟨_,dD.out.symm,rfl,Rh,hcW.trans Dj⟩
end Go.Proofs.YtoomapkcoibmhaaGreatDoor
end
section
open Go Go.Proofs Go.RowKit Go.Shelf Go.Maps Ck
namespace Go.Proofs.YtoomapkcoibmhaaGreatDoor
theorem oL {H:Type} {P:Program} (w:World) {o:Oper} {a:Act} {K':Act→World→Prop} {Q:Exit→Act→World→Prop} (m x:Operand) (t:TypeId) (hop:o.op=Op.lookup t m x true)
  (k e:TypeId) (q:IntKind) (K:Keyed P k) (ht:P.underlying t=some (.map k e)) (he:P.underlying e=some (.int q)) (hz:(zeroValue e).run P w=.ok (.int q 0) w) (b n:Nat) (D:DataW H)
  (hm:a.eval m=.map (some b)) (hown:w.ownsMap P k (plainElem P e) b n D) (key:Value) (kl:Lit) (hx:a.eval x=key) (hkey:keyOf P k key=some kl)
  (hK:∀c:Int,D.atKey kl (.lit (.int q 0))=.lit (.int q c)→K' (a.put o.dst (.tuple #[.int q c,.bool (Maps.has D kl)])) w) :
  Oper.wp P o a w K' Q:=by
 obtain⟨v,ps,hrun,hv⟩:=hown.look_ok K ht hz (plainElem_int he (by cases q<;>decide)) hkey
 unfold Oper.wp;simp[execOp,hop,hm,hx,hrun,Result.andThen];obtain⟨c,rfl,hc,hwc⟩:=plainElem_int_inv he hv
 exact hK c (congrArg Prod.fst hc)
def SK (S:lH) (b4 b6 b12 g' j d p:Nat) (v:Value) (X:World):Prop :=
 X.cell? ⟨b4,0,none⟩=some (.pointer (some ⟨S.bp,0,none⟩))∧X.cell? ⟨b12,0,none⟩=some v∧X.cell? ⟨g',j,none⟩=some (.int .i64 (p:Int))∧X.cell? ⟨b6,0,none⟩=some (.int .i64 (d:Int))
theorem CK.hw {S:lH} {s:CS} {ms:List Nat} {w:World} (h:CK S s ms w):HW S w:=by
 obtain⟨sv,lv,hb,_,_⟩:=h.ex
 exact⟨⟨_,hb,rfl⟩,h.rat⟩
theorem _root_.Ck.Hy (E:Env) (t:Tree) (d k:Nat) (s:CS):gu E [t] d k s=jg E t d k s:=by
 unfold gu gu;cases jg E t d k s<;>rfl
theorem Hz (w:World):(zeroValue 3).run Tryz.prog w=.ok (.int .i64 0) w:=by kernel_rfl
end Go.Proofs.YtoomapkcoibmhaaGreatDoor
end
