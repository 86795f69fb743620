/- A part of the proof. -/
import Derived.Test.YtoomapkcoibmhaaGreatDoorQ31
set_option maxRecDepth 100000
set_option maxHeartbeats 12800000
set_option linter.all false
section
open Go Go.Proofs Go.RowKit Go.Shelf Go.Maps Ck
namespace Go.Proofs.YtoomapkcoibmhaaGreatDoor
attribute [local go_sem] Oper.semAt_some
theorem Kt {S:lH} {N:Nat} (ih:rR S N) (n:Ck.Node) (ks:List Tree) (rest:List Ck.Node) (i d k B:Nat) (s:CS) (ms:List Nat) (w:World) (hs:(Tree.mk n ks).size≤N+1) (hT:S.R.drop i=(Tree.mk n ks).row++rest) (hA:(Tree.mk n ks).all sK) (hms:ms≠[]) (hb:Bd s B) (hB:B+(Tree.mk n ks).size≤1099511627776) (hsc:s.scopes.length≤d) (hlp:s.loops.length≤d) (hd:d≤257) (hkk:k≤1099511627776) (hK:CK S s ms w)
  (t2:(n.kind==2)=false) (t3:(n.kind==3)=false) (t4:(n.kind==4)=false) (t5:(n.kind==5)=false) (t6:(n.kind==6)=false) (t10:(n.kind==10)=false) (t11:(n.kind==11)=false) (t12:(n.kind==12)=true) (t25:(n.kind==25)=false) (t7:(n.kind==7)=false) (t23:(n.kind==23)=false) (uw:(n.kind==13)=false) (uy:(n.kind==14)=false) :
  Calls Tryz.prog 29 #[.pointer (some ⟨S.bp,0,none⟩),.int .i64 (i:Int),.int .i64 (d:Int),.int .i64 (k:Int)] w (iq S ms w (jg S.E (Tree.mk n ks) d k s)):=by
 obtain⟨r,hr⟩:∃r,Hid (jg S.E (Tree.mk n ks) d k s=r):=⟨_,rfl⟩
 rw[hr.out]
 have HM:Hid ((need (decide (256<d)) 71 n.at' >>= fun _=>(need (s.loops.contains n.text) 80 n.at' >>= fun _=>gu S.E ks (d+1) 0 s))=r):=by
  have h1:=hr.out;unfold jg at h1;simp only[t2,t3,t4,t5,t6,t10,t11,t12,t25,t7,t23,uw,uy,Bool.or_false,Bool.false_or,Bool.or_true,Bool.true_or,Bool.or_self,Bool.false_eq_true,if_true,if_false,reduceIte]at h1;exact h1
 clear hr;obtain⟨hrow,aD⟩:=bJ hT
 have o9:(Tree.mk n ks).size=sizes ks+1:=by simp[Tree.size]
 have hkl:ks.length≤sizes ks:=by rw[←bP];exact eZ ks
 have hil:(i:Int)<S.R.length:=by have:=(List.getElem?_eq_some_iff.1 aD).1;omega
 have hx:n.text.length≤140737488351232:=(hK.ok _ (List.mem_of_getElem? aD)).text;obtain⟨sv,lv,hb0,_,_⟩:=hK.ex
 obtain⟨rc,rz,bE,rb⟩:=hb0.rules
 have hlim:=hK.lim;have ko:=hK.rat.gl;obtain⟨rP,hgl,uW,n0,n1,n2,n3,n4,n5⟩:=Jg hK aD
 obtain⟨W5,gU⟩:∃X,X=nw S n i d ks w:=⟨_,rfl⟩
 obtain⟨kJ,k4,k5,k6,k8,k9,k10⟩:=gU ▸ npre S n i d ks w
 unfold nw at gU;have gP:=hK.fr kJ;obtain⟨Ko,Kq,hb5,_,_⟩:=gP.ex
 have hk:=dM S.bp S.R rest i S.g S.c n ks hT hlim W5 gP.rat _ hb5 rfl;have hcw:=aQ (S:=S) (ms:=ms) (w:=w) (decide (256<(d:Int))) 71 (ks.length:Int) (w.heap.size+1+1+1) n k8 gP.low HM (by simp;omega);have oJ:=Lib.hid gP;have HT:=Lib.hid hT;have HR:=Lib.hid hrow;have HN:=Lib.hid aD;have HA:=Lib.hid hA;have nI:=Lib.hid kJ;have Kr:=Lib.hid hK;have HB:=Lib.hid hb;clear gP hT hrow aD hA kJ hK hb hb5 HM hb0;have hdi:(d:Int)≤300:=by omega
 have hki:(k:Int)≤1099511627776:=by omega
 go_enter Tryz.func29,Tryz.ntmps29
 go_wp2_with (fail)
 go_region
 go_wp2_with (fail)
 rw[←gU];clear gU rc rz bE rb rP ko hgl uW n0 n1 n2 n3 n4 n5
 go_at_call 50
 refine hcw.mono ?_;clear hcw;rintro e1 w1 (⟨ft,rfl,hout⟩|⟨rfl,rfl,hq1,HM⟩)
 ·exact⟨rfl,hout⟩
 have hd2:d≤256:=by simpa using hq1
 obtain⟨c4,z4,s4,l4⟩:=k4.rules
 obtain⟨c5,z5,s5,l5⟩:=k5.rules
 go_wp2_with (fail)
 go_at_call 31
 refine hk.mono ?_;clear hk c4 z4 s4 l4 c5 z5 s5 l5;rintro e2 w2 ⟨v,rfl,hown,hf2⟩;obtain⟨g',cur,sa,sc,rfl,hgb,hcur,hsa,hcap⟩:=fZ hown (k5.fr hf2 (by simp))
 obtain⟨W,hW⟩:∃X,X=w2.alloc (.cells #[.slice sa ks.length sc] 36):=⟨_,rfl⟩
 have kK:Fr [] w2 W:=by rw[hW];exact(Fr.refl _ _).alloc _
 have aN:Fr [] W5 W:=hf2.trans kK
 have nf:NF S n i d ks w.heap.size (w.heap.size+1) (w.heap.size+1+1) (w.heap.size+1+1+1) (w.heap.size+1+1+1+1) (w.heap.size+1+1+1+1+1) w2.heap.size g' sc sa cur W :=
  ⟨k4.fr aN (by simp),k5.fr aN (by simp),k6.fr aN (by simp),k8.fr aN (by simp),k9.fr aN (by simp),k10.fr aN (by simp),by rw[hW];exact au.new _ _ _,hgb.fr kK (by simp),fun j q hj=>hcur j _ (by simp[gM,hj]),fun hne=>hsa (List.length_pos_iff.2 hne),hcap⟩
 have hKW:=oJ.out.fr aN;have hcW:Ct w W:=Ct.aC (nI.out.trans aN);clear kK aN hgb hcur hsa hown hf2 k4 k5 k6 k8 k9 k10 oJ nI
 go_upto_region 7 with(fail)
 rw[←hW];clear hW;generalize w2.heap.size=b12 at *;obtain⟨c8,z8,s8,l8⟩:=nf.h8.rules
 obtain⟨sv,lv,hbk,_,hlr⟩:=hKW.ex
 have hcon:=fJ W.drew lv s.loops.reverse n.text (bO.fr (S:=[]) (oI hlr) (Fr.refl [] _).drew (fun _ _ _ _=>List.not_mem_nil)) (by rw[List.length_reverse];omega);rw[je]at hcon
 obtain⟨lb,hlb⟩:∃lb:Bool,s.loops.contains n.text=lb:=⟨_,rfl⟩
 rw[hlb]at hcon
 have PU:=Lib.hid hlb;clear hlb;have iL:=aQ (S:=S) (ms:=ms) (w:=w) (lb) 80 (ks.length:Int) (w.heap.size+1+1+1) n (nf.h8.fr (Fr.refl [] _).drew (by simp)) (hKW.fr (Fr.refl [] _).drew).low HM (PU.out.symm)
 go_wp2_with (fail)
 have hS:SL S w.heap.size (w.heap.size+1+1+1) (w.heap.size+1+1+1+1) n.text lv W.drew:=⟨nf.sr.drew,hbk.rules.1 6⟩
 refine wp_region_held (S:=SL S w.heap.size (w.heap.size+1+1+1) (w.heap.size+1+1+1+1) n.text lv) (by kernel_rfl) ?_;refine tk 0 (.func (.func 50) #[] #[.pointer (some ⟨w.heap.size+1+1+1,0,none⟩)]) rfl hS (fun X hX=>?_) ?_
 ·obtain⟨⟨hX1,hX2,fP⟩,jP⟩:=hX;go_simp
 simp only[Act.put,acts];refine tk 1 (.pointer (some ⟨S.bp,0,none⟩)) rfl hS (fun X hX=>?_) ?_
 ·obtain⟨⟨hX1,hX2,fP⟩,jP⟩:=hX;go_simp
 simp only[Act.put,acts];refine tk 2 (.pointer (some ⟨S.bp,0,none⟩)) rfl hS (fun X hX=>?_) ?_
 ·go_simp
 simp only[Act.put,acts];refine tk 3 (.pointer (some ⟨S.bp,6,none⟩)) rfl hS (fun X hX=>?_) ?_
 ·go_simp
 simp only[Act.put,acts];refine tk 4 lv rfl hS (fun X hX=>?_) ?_
 ·obtain⟨⟨hX1,hX2,fP⟩,jP⟩:=hX;go_simp
 simp only[Act.put,acts];refine tk 5 (.pointer (some ⟨w.heap.size+1+1+1,3,none⟩)) rfl hS (fun X hX=>?_) ?_
 ·go_simp
 simp only[Act.put,acts];refine tk 6 (.string ⟨n.text.toArray⟩) rfl hS (fun X hX=>?_) ?_
 ·obtain⟨⟨hX1,hX2,fP⟩,jP⟩:=hX;go_simp
 simp only[Act.put,acts];refine wpAnyH_all (rs:=[7]) (by kernel_rfl) (by simp) ?_;intro i2 hi2;obtain rfl:i2=7:=by simpa using hi2
 refine wpOp_step rfl (fun K0 dz=>?_);rw[if_pos (by rfl)];go_simp;refine hcon.mono ?_;rintro e3 w3 ⟨rfl,rfl⟩;refine dz _ _ ⟨hS,?_⟩;refine wpAnyH_all (rs:=[8]) (by kernel_rfl) (by simp) ?_;intro i2 hi2;obtain rfl:i2=8:=by simpa using hi2
 refine wpOp_step rfl (fun K0 dz=>?_);rw[if_pos (by rfl)];go_simp;refine iL.mono ?_;rintro e4 V (⟨ft,rfl,hout⟩|⟨rfl,oK,hq2,HM⟩)
 ·exact⟨rfl,hout⟩
 have jK:Fr [] W V:=by rw[←oK];exact(Fr.refl [] _).drew
 replace nf:=nf.ct (Ct.aC jK);replace hKW:=hKW.fr jK;replace hcW:=hcW.trans (Ct.aC jK);refine dz _ _ ⟨by rw[←oK];exact hS,wpAnyH_done (by kernel_rfl) ?_ _⟩;clear oK jK;have vE:=nf.each ih rest B s ms (by omega) HR.out HA.out.2 hms HB.out (by omega) (by omega) (by omega) hKW (by omega);obtain⟨c10,Oo,s10,l10⟩:=nf.h10.rules
 obtain⟨c12,z12,s12,Gi⟩:=nf.h12.rules
 go_wp2_with (fail)
 go_at_call 51
 refine vE.mono ?_;rintro e5 w5 ho;rcases ho.last HM hcW with⟨ft,h1,rfl,h3⟩|⟨s2,h1,rfl,K2,C2⟩
 ·exact⟨rfl,.inl ⟨ft,h1,rfl,h3⟩⟩
 ·go_wp2
  go_end0
  exact .inr ⟨s2,h1,rfl,K2,C2⟩
theorem Ku {S:lH} {N:Nat} (ih:rR S N) (n:Ck.Node) (ks:List Tree) (rest:List Ck.Node) (i d k B:Nat) (s:CS) (ms:List Nat) (w:World) (hs:(Tree.mk n ks).size≤N+1) (hT:S.R.drop i=(Tree.mk n ks).row++rest) (hA:(Tree.mk n ks).all sK) (hms:ms≠[]) (hb:Bd s B) (hB:B+(Tree.mk n ks).size≤1099511627776) (hsc:s.scopes.length≤d) (hlp:s.loops.length≤d) (hd:d≤257) (hkk:k≤1099511627776) (hK:CK S s ms w)
  (t2:(n.kind==2)=false) (t3:(n.kind==3)=false) (t4:(n.kind==4)=false) (t5:(n.kind==5)=false) (t6:(n.kind==6)=false) (t10:(n.kind==10)=false) (t11:(n.kind==11)=false) (t12:(n.kind==12)=false) (t25:(n.kind==25)=true) (t7:(n.kind==7)=false) (t23:(n.kind==23)=false) (uw:(n.kind==13)=false) (uy:(n.kind==14)=false) :
  Calls Tryz.prog 29 #[.pointer (some ⟨S.bp,0,none⟩),.int .i64 (i:Int),.int .i64 (d:Int),.int .i64 (k:Int)] w (iq S ms w (jg S.E (Tree.mk n ks) d k s)):=by
 obtain⟨r,hr⟩:∃r,Hid (jg S.E (Tree.mk n ks) d k s=r):=⟨_,rfl⟩
 rw[hr.out]
 have HM:Hid ((need (decide (256<d)) 71 n.at' >>= fun _=>(need (!known S.E s n.text) 63 n.at' >>= fun _=>gu S.E ks (d+1) 0 s))=r):=by
  have h1:=hr.out;unfold jg at h1;simp only[t2,t3,t4,t5,t6,t10,t11,t12,t25,t7,t23,uw,uy,Bool.or_false,Bool.false_or,Bool.or_true,Bool.true_or,Bool.or_self,Bool.false_eq_true,if_true,if_false,reduceIte]at h1;exact h1
 clear hr;obtain⟨hrow,aD⟩:=bJ hT
 have o9:(Tree.mk n ks).size=sizes ks+1:=by simp[Tree.size]
 have hkl:ks.length≤sizes ks:=by rw[←bP];exact eZ ks
 have hil:(i:Int)<S.R.length:=by have:=(List.getElem?_eq_some_iff.1 aD).1;omega
 have hx:n.text.length≤140737488351232:=(hK.ok _ (List.mem_of_getElem? aD)).text;obtain⟨sv,lv,hb0,_,_⟩:=hK.ex
 obtain⟨rc,rz,bE,rb⟩:=hb0.rules
 have hlim:=hK.lim;have ko:=hK.rat.gl;obtain⟨rP,hgl,uW,n0,n1,n2,n3,n4,n5⟩:=Jg hK aD
 obtain⟨W5,gU⟩:∃X,X=nw S n i d ks w:=⟨_,rfl⟩
 obtain⟨kJ,k4,k5,k6,k8,k9,k10⟩:=gU ▸ npre S n i d ks w
 unfold nw at gU;have gP:=hK.fr kJ;obtain⟨Ko,Kq,hb5,_,_⟩:=gP.ex
 have hk:=dM S.bp S.R rest i S.g S.c n ks hT hlim W5 gP.rat _ hb5 rfl;have hcw:=aQ (S:=S) (ms:=ms) (w:=w) (decide (256<(d:Int))) 71 (ks.length:Int) (w.heap.size+1+1+1) n k8 gP.low HM (by simp;omega);have oJ:=Lib.hid gP;have HT:=Lib.hid hT;have HR:=Lib.hid hrow;have HN:=Lib.hid aD;have HA:=Lib.hid hA;have nI:=Lib.hid kJ;have Kr:=Lib.hid hK;have HB:=Lib.hid hb;clear gP hT hrow aD hA kJ hK hb hb5 HM hb0;have hdi:(d:Int)≤300:=by omega
 have hki:(k:Int)≤1099511627776:=by omega
 go_enter Tryz.func29,Tryz.ntmps29
 go_wp2_with (fail)
 go_region
 go_wp2_with (fail)
 rw[←gU];clear gU rc rz bE rb rP ko hgl uW n0 n1 n2 n3 n4 n5
 go_at_call 50
 refine hcw.mono ?_;clear hcw;rintro e1 w1 (⟨ft,rfl,hout⟩|⟨rfl,rfl,hq1,HM⟩)
 ·exact⟨rfl,hout⟩
 have hd2:d≤256:=by simpa using hq1
 obtain⟨c4,z4,s4,l4⟩:=k4.rules
 obtain⟨c5,z5,s5,l5⟩:=k5.rules
 go_wp2_with (fail)
 go_at_call 31
 refine hk.mono ?_;clear hk c4 z4 s4 l4 c5 z5 s5 l5;rintro e2 w2 ⟨v,rfl,hown,hf2⟩;obtain⟨g',cur,sa,sc,rfl,hgb,hcur,hsa,hcap⟩:=fZ hown (k5.fr hf2 (by simp))
 obtain⟨W,hW⟩:∃X,X=w2.alloc (.cells #[.slice sa ks.length sc] 36):=⟨_,rfl⟩
 have kK:Fr [] w2 W:=by rw[hW];exact(Fr.refl _ _).alloc _
 have aN:Fr [] W5 W:=hf2.trans kK
 have nf:NF S n i d ks w.heap.size (w.heap.size+1) (w.heap.size+1+1) (w.heap.size+1+1+1) (w.heap.size+1+1+1+1) (w.heap.size+1+1+1+1+1) w2.heap.size g' sc sa cur W :=
  ⟨k4.fr aN (by simp),k5.fr aN (by simp),k6.fr aN (by simp),k8.fr aN (by simp),k9.fr aN (by simp),k10.fr aN (by simp),by rw[hW];exact au.new _ _ _,hgb.fr kK (by simp),fun j q hj=>hcur j _ (by simp[gM,hj]),fun hne=>hsa (List.length_pos_iff.2 hne),hcap⟩
 have hKW:=oJ.out.fr aN;have hcW:Ct w W:=Ct.aC (nI.out.trans aN);clear kK aN hgb hcur hsa hown hf2 k4 k5 k6 k8 k9 k10 oJ nI
 go_upto_region 7 with(fail)
 rw[←hW];clear hW;generalize w2.heap.size=b12 at *;obtain⟨c8,z8,s8,l8⟩:=nf.h8.rules
 have hkn:=Eb (hKW.fr (Fr.refl [] _).drew) n.text (by simp[maxLen];omega)
 go_wp2_with (fail)
 have hS:(SR S w.heap.size (w.heap.size+1+1+1) (w.heap.size+1+1+1+1) n.text) W.drew:=nf.sr.drew;refine wp_region_held (S:=SR S w.heap.size (w.heap.size+1+1+1) (w.heap.size+1+1+1+1) n.text) (by kernel_rfl) ?_;refine tk 0 (.func (.func 50) #[] #[.pointer (some ⟨w.heap.size+1+1+1,0,none⟩)]) rfl hS (fun X hX=>?_) ?_
 ·obtain⟨hX1,hX2,fP⟩:=hX;go_simp
 simp only[Act.put,acts];refine tk 1 (.pointer (some ⟨S.bp,0,none⟩)) rfl hS (fun X hX=>?_) ?_
 ·obtain⟨hX1,hX2,fP⟩:=hX;go_simp
 simp only[Act.put,acts];refine tk 2 (.pointer (some ⟨w.heap.size+1+1+1,3,none⟩)) rfl hS (fun X hX=>?_) ?_
 ·go_simp
 simp only[Act.put,acts];refine tk 3 (.string ⟨n.text.toArray⟩) rfl hS (fun X hX=>?_) ?_
 ·obtain⟨hX1,hX2,fP⟩:=hX;go_simp
 simp only[Act.put,acts];refine wpAnyH_all (rs:=[4]) (by kernel_rfl) (by simp) ?_;intro i2 hi2;obtain rfl:i2=4:=by simpa using hi2
 refine wpOp_step rfl (fun K0 dz=>?_);rw[if_pos (by rfl)];go_simp;refine hkn.mono ?_;rintro e3 w3 ⟨rfl,hf3⟩;have uX:Fr [] W w3:=((Fr.refl [] _).drew).trans hf3;have Oq:=hS.fr hf3;clear hS;have hS:=Oq;refine dz _ _ ⟨hS,?_⟩;refine tk 5 (.bool (!Ck.known S.E s n.text)) rfl hS (fun X hX=>?_) ?_
 ·go_simp
 simp only[Act.put,acts];have iL:=aQ (S:=S) (ms:=ms) (w:=w) (!Ck.known S.E s n.text) 63 (ks.length:Int) (w.heap.size+1+1+1) n (nf.h8.fr uX (by simp)) (hKW.fr uX).low HM (rfl);refine wpAnyH_all (rs:=[6]) (by kernel_rfl) (by simp) ?_;intro i2 hi2;obtain rfl:i2=6:=by simpa using hi2
 refine wpOp_step rfl (fun K0 dz=>?_);rw[if_pos (by rfl)];go_simp;refine iL.mono ?_;rintro e4 V (⟨ft,rfl,hout⟩|⟨rfl,oK,hq2,HM⟩)
 ·exact⟨rfl,hout⟩
 have jK:Fr [] W V:=by rw[←oK];exact uX
 replace nf:=nf.ct (Ct.aC jK);replace hKW:=hKW.fr jK;replace hcW:=hcW.trans (Ct.aC jK);refine dz _ _ ⟨by rw[←oK];exact hS,wpAnyH_done (by kernel_rfl) ?_ _⟩;clear oK jK;have vE:=nf.each ih rest B s ms (by omega) HR.out HA.out.2 hms HB.out (by omega) (by omega) (by omega) hKW (by omega);obtain⟨c10,Oo,s10,l10⟩:=nf.h10.rules
 obtain⟨c12,z12,s12,Gi⟩:=nf.h12.rules
 go_wp2_with (fail)
 go_at_call 51
 refine vE.mono ?_;rintro e5 w5 ho;rcases ho.last HM hcW with⟨ft,h1,rfl,h3⟩|⟨s2,h1,rfl,K2,C2⟩
 ·exact⟨rfl,.inl ⟨ft,h1,rfl,h3⟩⟩
 ·go_wp2
  go_end0
  exact .inr ⟨s2,h1,rfl,K2,C2⟩
theorem Ni {S:lH} {N:Nat} (ih:rR S N) (n:Ck.Node) (ks:List Tree) (rest:List Ck.Node) (i d k B:Nat) (s:CS) (ms:List Nat) (w:World) (hs:(Tree.mk n ks).size≤N+1) (hT:S.R.drop i=(Tree.mk n ks).row++rest) (hA:(Tree.mk n ks).all sK) (hms:ms≠[]) (hb:Bd s B) (hB:B+(Tree.mk n ks).size≤1099511627776) (hsc:s.scopes.length≤d) (hlp:s.loops.length≤d) (hd:d≤257) (hkk:k≤1099511627776) (hK:CK S s ms w)
  (t2:(n.kind==2)=false) (t3:(n.kind==3)=false) (t4:(n.kind==4)=false) (t5:(n.kind==5)=false) (t6:(n.kind==6)=false) (t10:(n.kind==10)=false) (t11:(n.kind==11)=false) (t12:(n.kind==12)=false) (t25:(n.kind==25)=false) (t7:(n.kind==7)=true) (t23:(n.kind==23)=false) (uw:(n.kind==13)=false) (uy:(n.kind==14)=false) :
  Calls Tryz.prog 29 #[.pointer (some ⟨S.bp,0,none⟩),.int .i64 (i:Int),.int .i64 (d:Int),.int .i64 (k:Int)] w (iq S ms w (jg S.E (Tree.mk n ks) d k s)):=by
 obtain⟨r,hr⟩:∃r,Hid (jg S.E (Tree.mk n ks) d k s=r):=⟨_,rfl⟩
 rw[hr.out]
 have HM:Hid ((need (decide (256<d)) 71 n.at' >>= fun _=>(need (!known S.E s n.text) 63 n.at' >>= fun _=>gu S.E ks (d+1) 0 s))=r):=by
  have h1:=hr.out;unfold jg at h1;simp only[t2,t3,t4,t5,t6,t10,t11,t12,t25,t7,t23,uw,uy,Bool.or_false,Bool.false_or,Bool.or_true,Bool.true_or,Bool.or_self,Bool.false_eq_true,if_true,if_false,reduceIte]at h1;exact h1
 clear hr;obtain⟨hrow,aD⟩:=bJ hT
 have o9:(Tree.mk n ks).size=sizes ks+1:=by simp[Tree.size]
 have hkl:ks.length≤sizes ks:=by rw[←bP];exact eZ ks
 have hil:(i:Int)<S.R.length:=by have:=(List.getElem?_eq_some_iff.1 aD).1;omega
 have hx:n.text.length≤140737488351232:=(hK.ok _ (List.mem_of_getElem? aD)).text;obtain⟨sv,lv,hb0,_,_⟩:=hK.ex
 obtain⟨rc,rz,bE,rb⟩:=hb0.rules
 have hlim:=hK.lim;have ko:=hK.rat.gl;obtain⟨rP,hgl,uW,n0,n1,n2,n3,n4,n5⟩:=Jg hK aD
 obtain⟨W5,gU⟩:∃X,X=nw S n i d ks w:=⟨_,rfl⟩
 obtain⟨kJ,k4,k5,k6,k8,k9,k10⟩:=gU ▸ npre S n i d ks w
 unfold nw at gU;have gP:=hK.fr kJ;obtain⟨Ko,Kq,hb5,_,_⟩:=gP.ex
 have hk:=dM S.bp S.R rest i S.g S.c n ks hT hlim W5 gP.rat _ hb5 rfl;have hcw:=aQ (S:=S) (ms:=ms) (w:=w) (decide (256<(d:Int))) 71 (ks.length:Int) (w.heap.size+1+1+1) n k8 gP.low HM (by simp;omega);have oJ:=Lib.hid gP;have HT:=Lib.hid hT;have HR:=Lib.hid hrow;have HN:=Lib.hid aD;have HA:=Lib.hid hA;have nI:=Lib.hid kJ;have Kr:=Lib.hid hK;have HB:=Lib.hid hb;clear gP hT hrow aD hA kJ hK hb hb5 HM hb0;have hdi:(d:Int)≤300:=by omega
 have hki:(k:Int)≤1099511627776:=by omega
 go_enter Tryz.func29,Tryz.ntmps29
 go_wp2_with (fail)
 go_region
 go_wp2_with (fail)
 rw[←gU];clear gU rc rz bE rb rP ko hgl uW n0 n1 n2 n3 n4 n5
 go_at_call 50
 refine hcw.mono ?_;clear hcw;rintro e1 w1 (⟨ft,rfl,hout⟩|⟨rfl,rfl,hq1,HM⟩)
 ·exact⟨rfl,hout⟩
 have hd2:d≤256:=by simpa using hq1
 obtain⟨c4,z4,s4,l4⟩:=k4.rules
 obtain⟨c5,z5,s5,l5⟩:=k5.rules
 go_wp2_with (fail)
 go_at_call 31
 refine hk.mono ?_;clear hk c4 z4 s4 l4 c5 z5 s5 l5;rintro e2 w2 ⟨v,rfl,hown,hf2⟩;obtain⟨g',cur,sa,sc,rfl,hgb,hcur,hsa,hcap⟩:=fZ hown (k5.fr hf2 (by simp))
 obtain⟨W,hW⟩:∃X,X=w2.alloc (.cells #[.slice sa ks.length sc] 36):=⟨_,rfl⟩
 have kK:Fr [] w2 W:=by rw[hW];exact(Fr.refl _ _).alloc _
 have aN:Fr [] W5 W:=hf2.trans kK
 have nf:NF S n i d ks w.heap.size (w.heap.size+1) (w.heap.size+1+1) (w.heap.size+1+1+1) (w.heap.size+1+1+1+1) (w.heap.size+1+1+1+1+1) w2.heap.size g' sc sa cur W :=
  ⟨k4.fr aN (by simp),k5.fr aN (by simp),k6.fr aN (by simp),k8.fr aN (by simp),k9.fr aN (by simp),k10.fr aN (by simp),by rw[hW];exact au.new _ _ _,hgb.fr kK (by simp),fun j q hj=>hcur j _ (by simp[gM,hj]),fun hne=>hsa (List.length_pos_iff.2 hne),hcap⟩
 have hKW:=oJ.out.fr aN;have hcW:Ct w W:=Ct.aC (nI.out.trans aN);clear kK aN hgb hcur hsa hown hf2 k4 k5 k6 k8 k9 k10 oJ nI
 go_upto_region 7 with(fail)
 rw[←hW];clear hW;generalize w2.heap.size=b12 at *;obtain⟨c8,z8,s8,l8⟩:=nf.h8.rules
 have hkn:=Eb (hKW.fr (Fr.refl [] _).drew) n.text (by simp[maxLen];omega)
 go_wp2_with (fail)
 have hS:(SR S w.heap.size (w.heap.size+1+1+1) (w.heap.size+1+1+1+1) n.text) W.drew:=nf.sr.drew;refine wp_region_held (S:=SR S w.heap.size (w.heap.size+1+1+1) (w.heap.size+1+1+1+1) n.text) (by kernel_rfl) ?_;refine tk 0 (.func (.func 50) #[] #[.pointer (some ⟨w.heap.size+1+1+1,0,none⟩)]) rfl hS (fun X hX=>?_) ?_
 ·obtain⟨hX1,hX2,fP⟩:=hX;go_simp
 simp only[Act.put,acts];refine tk 1 (.pointer (some ⟨S.bp,0,none⟩)) rfl hS (fun X hX=>?_) ?_
 ·obtain⟨hX1,hX2,fP⟩:=hX;go_simp
 simp only[Act.put,acts];refine tk 2 (.pointer (some ⟨w.heap.size+1+1+1,3,none⟩)) rfl hS (fun X hX=>?_) ?_
 ·go_simp
 simp only[Act.put,acts];refine tk 3 (.string ⟨n.text.toArray⟩) rfl hS (fun X hX=>?_) ?_
 ·obtain⟨hX1,hX2,fP⟩:=hX;go_simp
 simp only[Act.put,acts];refine wpAnyH_all (rs:=[4]) (by kernel_rfl) (by simp) ?_;intro i2 hi2;obtain rfl:i2=4:=by simpa using hi2
 refine wpOp_step rfl (fun K0 dz=>?_);rw[if_pos (by rfl)];go_simp;refine hkn.mono ?_;rintro e3 w3 ⟨rfl,hf3⟩;have uX:Fr [] W w3:=((Fr.refl [] _).drew).trans hf3;have Oq:=hS.fr hf3;clear hS;have hS:=Oq;refine dz _ _ ⟨hS,?_⟩;refine tk 5 (.bool (!Ck.known S.E s n.text)) rfl hS (fun X hX=>?_) ?_
 ·go_simp
 simp only[Act.put,acts];have iL:=aQ (S:=S) (ms:=ms) (w:=w) (!Ck.known S.E s n.text) 63 (ks.length:Int) (w.heap.size+1+1+1) n (nf.h8.fr uX (by simp)) (hKW.fr uX).low HM (rfl);refine wpAnyH_all (rs:=[6]) (by kernel_rfl) (by simp) ?_;intro i2 hi2;obtain rfl:i2=6:=by simpa using hi2
 refine wpOp_step rfl (fun K0 dz=>?_);rw[if_pos (by rfl)];go_simp;refine iL.mono ?_;rintro e4 V (⟨ft,rfl,hout⟩|⟨rfl,oK,hq2,HM⟩)
 ·exact⟨rfl,hout⟩
 have jK:Fr [] W V:=by rw[←oK];exact uX
 replace nf:=nf.ct (Ct.aC jK);replace hKW:=hKW.fr jK;replace hcW:=hcW.trans (Ct.aC jK);refine dz _ _ ⟨by rw[←oK];exact hS,wpAnyH_done (by kernel_rfl) ?_ _⟩;clear oK jK;have vE:=nf.each ih rest B s ms (by omega) HR.out HA.out.2 hms HB.out (by omega) (by omega) (by omega) hKW (by omega);obtain⟨c10,Oo,s10,l10⟩:=nf.h10.rules
 obtain⟨c12,z12,s12,Gi⟩:=nf.h12.rules
 go_wp2_with (fail)
 go_at_call 51
 refine vE.mono ?_;rintro e5 w5 ho;rcases ho.last HM hcW with⟨ft,h1,rfl,h3⟩|⟨s2,h1,rfl,K2,C2⟩
 ·exact⟨rfl,.inl ⟨ft,h1,rfl,h3⟩⟩
 ·go_wp2
  go_end0
  exact .inr ⟨s2,h1,rfl,K2,C2⟩
end Go.Proofs.YtoomapkcoibmhaaGreatDoor
end
