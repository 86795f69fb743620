/- A part of the proof. -/
import Derived.Test.YtoomapkcoibmhaaGreatDoorQ28
set_option maxRecDepth 100000
set_option maxHeartbeats 12800000
set_option linter.all false
section
open Go Go.Proofs Go.RowKit Go.Shelf Go.Maps Ck
namespace Go.Proofs.YtoomapkcoibmhaaGreatDoor
attribute [local go_sem] Oper.semAt_some
theorem node12_any {S:CSt} {N:Nat} (ih:NAny S N) (n:Ck.Node) (ks:List Tree) (rest:List Ck.Node) (i d k B:Nat) (s:CS) (ms:List Nat) (w:World) (hs:(Tree.mk n ks).size≤N+1) (hT:S.R.drop i=(Tree.mk n ks).row++rest) (hA:(Tree.mk n ks).all Shp) (hms:ms≠[]) (hb:Bd s B) (hB:B+(Tree.mk n ks).size≤1099511627776) (hsc:s.scopes.length≤d) (hlp:s.loops.length≤d) (hd:d≤257) (hkk:k≤1099511627776) (hK:CK S s ms w)
  (t2:(n.kind==2)=false) (t3:(n.kind==3)=false) (t4:(n.kind==4)=false) (t5:(n.kind==5)=false) (t6:(n.kind==6)=false) (t10:(n.kind==10)=false) (t11:(n.kind==11)=false) (t12:(n.kind==12)=true) (t25:(n.kind==25)=false) (t7:(n.kind==7)=false) (t23:(n.kind==23)=false) (t13:(n.kind==13)=false) (t14:(n.kind==14)=false) :
  Calls Tryz.prog 29 #[.pointer (some ⟨S.bp,0,none⟩),.int .i64 (i:Int),.int .i64 (d:Int),.int .i64 (k:Int)] w (COut S ms w (chk S.E (Tree.mk n ks) d k s)):=by
 obtain⟨r,hr⟩:∃r,Hid (chk S.E (Tree.mk n ks) d k s=r):=⟨_,rfl⟩
 rw[hr.out]
 have HM:Hid ((need (decide (256<d)) 71 n.at' >>= fun _=>(need (s.loops.contains n.text) 80 n.at' >>= fun _=>chks S.E ks (d+1) 0 s))=r):=by
  have h1:=hr.out
  unfold chk at h1
  simp only[t2,t3,t4,t5,t6,t10,t11,t12,t25,t7,t23,t13,t14,Bool.or_false,Bool.false_or,Bool.or_true,Bool.true_or,Bool.or_self,Bool.false_eq_true,if_true,if_false,reduceIte]at h1
  exact h1
 clear hr
 obtain⟨hrow,hnode⟩:=row_tail hT
 have hszT:(Tree.mk n ks).size=sizes ks+1:=by simp[Tree.size]
 have hkl:ks.length≤sizes ks:=by rw[←rows_sizes];exact rowsGe ks
 have hil:(i:Int)<S.R.length:=by have:=(List.getElem?_eq_some_iff.1 hnode).1;omega
 have hx:n.text.length≤140737488351232:=(hK.ok _ (List.mem_of_getElem? hnode)).text
 obtain⟨sv,lv,hb0,_,_⟩:=hK.ex
 obtain⟨rc,rz,rset,rb⟩:=hb0.rules
 have hlim:=hK.lim;have hgl0:=hK.rat.gl
 obtain⟨rc0,hgl,rbk,n0,n1,n2,n3,n4,n5⟩:=nrd hK hnode
 obtain⟨W5,hW5⟩:∃X,X=nw S n i d ks w:=⟨_,rfl⟩
 obtain⟨hF5,k4,k5,k6,k8,k9,k10⟩:=hW5 ▸ npre S n i d ks w
 unfold nw at hW5
 have hK5:=hK.fr hF5
 obtain⟨sv5,lv5,hb5,_,_⟩:=hK5.ex
 have hk:=kids_any S.bp S.R rest i S.g S.c n ks hT hlim W5 hK5.rat _ hb5 rfl
 have hcw:=nfault_any (S:=S) (ms:=ms) (w:=w) (decide (256<(d:Int))) 71 (ks.length:Int) (w.heap.size+1+1+1) n k8 hK5.low HM (by simp;omega)
 have HK5:=Lib.hid hK5;have HT:=Lib.hid hT;have HR:=Lib.hid hrow;have HN:=Lib.hid hnode;have HA:=Lib.hid hA;have HF5:=Lib.hid hF5;have HKx:=Lib.hid hK;have HB:=Lib.hid hb
 clear hK5 hT hrow hnode hA hF5 hK hb hb5 HM hb0
 have hdi:(d:Int)≤300:=by omega
 have hki:(k:Int)≤1099511627776:=by omega
 go_enter Tryz.func29,Tryz.ntmps29
 go_wp2_with (fail)
 go_region
 go_wp2_with (fail)
 rw[←hW5]
 clear hW5 rc rz rset rb rc0 hgl0 hgl rbk n0 n1 n2 n3 n4 n5
 go_at_call 50
 refine hcw.mono ?_
 clear hcw
 rintro e1 w1 (⟨ft,rfl,hout⟩|⟨rfl,rfl,hq1,HM⟩)
 ·exact⟨rfl,hout⟩
 have hd2:d≤256:=by simpa using hq1
 obtain⟨c4,z4,s4,l4⟩:=k4.rules
 obtain⟨c5,z5,s5,l5⟩:=k5.rules
 go_wp2_with (fail)
 go_at_call 31
 refine hk.mono ?_
 clear hk c4 z4 s4 l4 c5 z5 s5 l5
 rintro e2 w2 ⟨v,rfl,hown,hf2⟩
 obtain⟨g',cur,sa,sc,rfl,hgb,hcur,hsa,hcap⟩:=kids_blk hown (k5.fr hf2 (by simp))
 obtain⟨W,hW⟩:∃X,X=w2.alloc (.cells #[.slice sa ks.length sc] 36):=⟨_,rfl⟩
 have hfW:Fr [] w2 W:=by rw[hW];exact(Fr.refl _ _).alloc _
 have hf5W:Fr [] W5 W:=hf2.trans hfW
 have nf:NF S n i d ks w.heap.size (w.heap.size+1) (w.heap.size+1+1) (w.heap.size+1+1+1) (w.heap.size+1+1+1+1) (w.heap.size+1+1+1+1+1) w2.heap.size g' sc sa cur W :=
  ⟨k4.fr hf5W (by simp),k5.fr hf5W (by simp),k6.fr hf5W (by simp),k8.fr hf5W (by simp),k9.fr hf5W (by simp),k10.fr hf5W (by simp),by rw[hW];exact Blk.new _ _ _,hgb.fr hfW (by simp),fun j q hj=>hcur j _ (by simp[ivals,hj]),fun hne=>hsa (List.length_pos_iff.2 hne),hcap⟩
 have hKW:=HK5.out.fr hf5W
 have hcW:Ct w W:=Ct.of_fr (HF5.out.trans hf5W)
 clear hfW hf5W hgb hcur hsa hown hf2 k4 k5 k6 k8 k9 k10 HK5 HF5
 go_upto_region 7 with(fail)
 rw[←hW]
 clear hW
 generalize w2.heap.size=b12 at *
 obtain⟨c8,z8,s8,l8⟩:=nf.h8.rules
 obtain⟨sv,lv,hbk,_,hlr⟩:=hKW.ex
 have hcon:=contains_any W.drew lv s.loops.reverse n.text (StrSlice.fr (S:=[]) (owns_str hlr) (Fr.refl [] _).drew (fun _ _ _ _=>List.not_mem_nil)) (by rw[List.length_reverse];omega)
 rw[contains_rev]at hcon
 obtain⟨lb,hlb⟩:∃lb:Bool,s.loops.contains n.text=lb:=⟨_,rfl⟩
 rw[hlb]at hcon
 have HLB:=Lib.hid hlb
 clear hlb
 have hflt:=nfault_any (S:=S) (ms:=ms) (w:=w) (lb) 80 (ks.length:Int) (w.heap.size+1+1+1) n (nf.h8.fr (Fr.refl [] _).drew (by simp)) (hKW.fr (Fr.refl [] _).drew).low HM (HLB.out.symm)
 go_wp2_with (fail)
 have hS:SL S w.heap.size (w.heap.size+1+1+1) (w.heap.size+1+1+1+1) n.text lv W.drew:=⟨nf.sr.drew,hbk.rules.1 6⟩
 refine wp_region_held (S:=SL S w.heap.size (w.heap.size+1+1+1) (w.heap.size+1+1+1+1) n.text lv) (by kernel_rfl) ?_
 refine tk 0 (.func (.func 50) #[] #[.pointer (some ⟨w.heap.size+1+1+1,0,none⟩)]) rfl hS (fun X hX=>?_) ?_
 ·obtain⟨⟨hX1,hX2,hX3⟩,hX4⟩:=hX;go_simp
 simp only[Act.put,acts]
 refine tk 1 (.pointer (some ⟨S.bp,0,none⟩)) rfl hS (fun X hX=>?_) ?_
 ·obtain⟨⟨hX1,hX2,hX3⟩,hX4⟩:=hX;go_simp
 simp only[Act.put,acts]
 refine tk 2 (.pointer (some ⟨S.bp,0,none⟩)) rfl hS (fun X hX=>?_) ?_
 ·go_simp
 simp only[Act.put,acts]
 refine tk 3 (.pointer (some ⟨S.bp,6,none⟩)) rfl hS (fun X hX=>?_) ?_
 ·go_simp
 simp only[Act.put,acts]
 refine tk 4 lv rfl hS (fun X hX=>?_) ?_
 ·obtain⟨⟨hX1,hX2,hX3⟩,hX4⟩:=hX;go_simp
 simp only[Act.put,acts]
 refine tk 5 (.pointer (some ⟨w.heap.size+1+1+1,3,none⟩)) rfl hS (fun X hX=>?_) ?_
 ·go_simp
 simp only[Act.put,acts]
 refine tk 6 (.string ⟨n.text.toArray⟩) rfl hS (fun X hX=>?_) ?_
 ·obtain⟨⟨hX1,hX2,hX3⟩,hX4⟩:=hX;go_simp
 simp only[Act.put,acts]
 refine wpAnyH_all (rs:=[7]) (by kernel_rfl) (by simp) ?_
 intro i2 hi2
 obtain rfl:i2=7:=by simpa using hi2
 refine wpOp_step rfl (fun K0 hK0=>?_)
 rw[if_pos (by rfl)]
 go_simp
 refine hcon.mono ?_
 rintro e3 w3 ⟨rfl,rfl⟩
 refine hK0 _ _ ⟨hS,?_⟩
 refine wpAnyH_all (rs:=[8]) (by kernel_rfl) (by simp) ?_
 intro i2 hi2
 obtain rfl:i2=8:=by simpa using hi2
 refine wpOp_step rfl (fun K0 hK0=>?_)
 rw[if_pos (by rfl)]
 go_simp
 refine hflt.mono ?_
 rintro e4 V (⟨ft,rfl,hout⟩|⟨rfl,hVe,hq2,HM⟩)
 ·exact⟨rfl,hout⟩
 have hfV:Fr [] W V:=by rw[←hVe];exact(Fr.refl [] _).drew
 replace nf:=nf.ct (Ct.of_fr hfV)
 replace hKW:=hKW.fr hfV
 replace hcW:=hcW.trans (Ct.of_fr hfV)
 refine hK0 _ _ ⟨by rw[←hVe];exact hS,wpAnyH_done (by kernel_rfl) ?_ _⟩
 clear hVe hfV
 have hea:=nf.each ih rest B s ms (by omega) HR.out HA.out.2 hms HB.out (by omega) (by omega) (by omega) hKW (by omega)
 obtain⟨c10,z10,s10,l10⟩:=nf.h10.rules
 obtain⟨c12,z12,s12,l12⟩:=nf.h12.rules
 go_wp2_with (fail)
 go_at_call 51
 refine hea.mono ?_
 rintro e5 w5 ho
 rcases ho.last HM hcW with⟨ft,h1,rfl,h3⟩|⟨s2,h1,rfl,K2,C2⟩
 ·exact⟨rfl,.inl ⟨ft,h1,rfl,h3⟩⟩
 ·go_wp2
  go_end0
  exact .inr ⟨s2,h1,rfl,K2,C2⟩
theorem node25_any {S:CSt} {N:Nat} (ih:NAny S N) (n:Ck.Node) (ks:List Tree) (rest:List Ck.Node) (i d k B:Nat) (s:CS) (ms:List Nat) (w:World) (hs:(Tree.mk n ks).size≤N+1) (hT:S.R.drop i=(Tree.mk n ks).row++rest) (hA:(Tree.mk n ks).all Shp) (hms:ms≠[]) (hb:Bd s B) (hB:B+(Tree.mk n ks).size≤1099511627776) (hsc:s.scopes.length≤d) (hlp:s.loops.length≤d) (hd:d≤257) (hkk:k≤1099511627776) (hK:CK S s ms w)
  (t2:(n.kind==2)=false) (t3:(n.kind==3)=false) (t4:(n.kind==4)=false) (t5:(n.kind==5)=false) (t6:(n.kind==6)=false) (t10:(n.kind==10)=false) (t11:(n.kind==11)=false) (t12:(n.kind==12)=false) (t25:(n.kind==25)=true) (t7:(n.kind==7)=false) (t23:(n.kind==23)=false) (t13:(n.kind==13)=false) (t14:(n.kind==14)=false) :
  Calls Tryz.prog 29 #[.pointer (some ⟨S.bp,0,none⟩),.int .i64 (i:Int),.int .i64 (d:Int),.int .i64 (k:Int)] w (COut S ms w (chk S.E (Tree.mk n ks) d k s)):=by
 obtain⟨r,hr⟩:∃r,Hid (chk S.E (Tree.mk n ks) d k s=r):=⟨_,rfl⟩
 rw[hr.out]
 have HM:Hid ((need (decide (256<d)) 71 n.at' >>= fun _=>(need (!known S.E s n.text) 63 n.at' >>= fun _=>chks S.E ks (d+1) 0 s))=r):=by
  have h1:=hr.out
  unfold chk at h1
  simp only[t2,t3,t4,t5,t6,t10,t11,t12,t25,t7,t23,t13,t14,Bool.or_false,Bool.false_or,Bool.or_true,Bool.true_or,Bool.or_self,Bool.false_eq_true,if_true,if_false,reduceIte]at h1
  exact h1
 clear hr
 obtain⟨hrow,hnode⟩:=row_tail hT
 have hszT:(Tree.mk n ks).size=sizes ks+1:=by simp[Tree.size]
 have hkl:ks.length≤sizes ks:=by rw[←rows_sizes];exact rowsGe ks
 have hil:(i:Int)<S.R.length:=by have:=(List.getElem?_eq_some_iff.1 hnode).1;omega
 have hx:n.text.length≤140737488351232:=(hK.ok _ (List.mem_of_getElem? hnode)).text
 obtain⟨sv,lv,hb0,_,_⟩:=hK.ex
 obtain⟨rc,rz,rset,rb⟩:=hb0.rules
 have hlim:=hK.lim;have hgl0:=hK.rat.gl
 obtain⟨rc0,hgl,rbk,n0,n1,n2,n3,n4,n5⟩:=nrd hK hnode
 obtain⟨W5,hW5⟩:∃X,X=nw S n i d ks w:=⟨_,rfl⟩
 obtain⟨hF5,k4,k5,k6,k8,k9,k10⟩:=hW5 ▸ npre S n i d ks w
 unfold nw at hW5
 have hK5:=hK.fr hF5
 obtain⟨sv5,lv5,hb5,_,_⟩:=hK5.ex
 have hk:=kids_any S.bp S.R rest i S.g S.c n ks hT hlim W5 hK5.rat _ hb5 rfl
 have hcw:=nfault_any (S:=S) (ms:=ms) (w:=w) (decide (256<(d:Int))) 71 (ks.length:Int) (w.heap.size+1+1+1) n k8 hK5.low HM (by simp;omega)
 have HK5:=Lib.hid hK5;have HT:=Lib.hid hT;have HR:=Lib.hid hrow;have HN:=Lib.hid hnode;have HA:=Lib.hid hA;have HF5:=Lib.hid hF5;have HKx:=Lib.hid hK;have HB:=Lib.hid hb
 clear hK5 hT hrow hnode hA hF5 hK hb hb5 HM hb0
 have hdi:(d:Int)≤300:=by omega
 have hki:(k:Int)≤1099511627776:=by omega
 go_enter Tryz.func29,Tryz.ntmps29
 go_wp2_with (fail)
 go_region
 go_wp2_with (fail)
 rw[←hW5]
 clear hW5 rc rz rset rb rc0 hgl0 hgl rbk n0 n1 n2 n3 n4 n5
 go_at_call 50
 refine hcw.mono ?_
 clear hcw
 rintro e1 w1 (⟨ft,rfl,hout⟩|⟨rfl,rfl,hq1,HM⟩)
 ·exact⟨rfl,hout⟩
 have hd2:d≤256:=by simpa using hq1
 obtain⟨c4,z4,s4,l4⟩:=k4.rules
 obtain⟨c5,z5,s5,l5⟩:=k5.rules
 go_wp2_with (fail)
 go_at_call 31
 refine hk.mono ?_
 clear hk c4 z4 s4 l4 c5 z5 s5 l5
 rintro e2 w2 ⟨v,rfl,hown,hf2⟩
 obtain⟨g',cur,sa,sc,rfl,hgb,hcur,hsa,hcap⟩:=kids_blk hown (k5.fr hf2 (by simp))
 obtain⟨W,hW⟩:∃X,X=w2.alloc (.cells #[.slice sa ks.length sc] 36):=⟨_,rfl⟩
 have hfW:Fr [] w2 W:=by rw[hW];exact(Fr.refl _ _).alloc _
 have hf5W:Fr [] W5 W:=hf2.trans hfW
 have nf:NF S n i d ks w.heap.size (w.heap.size+1) (w.heap.size+1+1) (w.heap.size+1+1+1) (w.heap.size+1+1+1+1) (w.heap.size+1+1+1+1+1) w2.heap.size g' sc sa cur W :=
  ⟨k4.fr hf5W (by simp),k5.fr hf5W (by simp),k6.fr hf5W (by simp),k8.fr hf5W (by simp),k9.fr hf5W (by simp),k10.fr hf5W (by simp),by rw[hW];exact Blk.new _ _ _,hgb.fr hfW (by simp),fun j q hj=>hcur j _ (by simp[ivals,hj]),fun hne=>hsa (List.length_pos_iff.2 hne),hcap⟩
 have hKW:=HK5.out.fr hf5W
 have hcW:Ct w W:=Ct.of_fr (HF5.out.trans hf5W)
 clear hfW hf5W hgb hcur hsa hown hf2 k4 k5 k6 k8 k9 k10 HK5 HF5
 go_upto_region 7 with(fail)
 rw[←hW]
 clear hW
 generalize w2.heap.size=b12 at *
 obtain⟨c8,z8,s8,l8⟩:=nf.h8.rules
 have hkn:=known_any (hKW.fr (Fr.refl [] _).drew) n.text (by simp[maxLen];omega)
 go_wp2_with (fail)
 have hS:(SR S w.heap.size (w.heap.size+1+1+1) (w.heap.size+1+1+1+1) n.text) W.drew:=nf.sr.drew
 refine wp_region_held (S:=SR S w.heap.size (w.heap.size+1+1+1) (w.heap.size+1+1+1+1) n.text) (by kernel_rfl) ?_
 refine tk 0 (.func (.func 50) #[] #[.pointer (some ⟨w.heap.size+1+1+1,0,none⟩)]) rfl hS (fun X hX=>?_) ?_
 ·obtain⟨hX1,hX2,hX3⟩:=hX;go_simp
 simp only[Act.put,acts]
 refine tk 1 (.pointer (some ⟨S.bp,0,none⟩)) rfl hS (fun X hX=>?_) ?_
 ·obtain⟨hX1,hX2,hX3⟩:=hX;go_simp
 simp only[Act.put,acts]
 refine tk 2 (.pointer (some ⟨w.heap.size+1+1+1,3,none⟩)) rfl hS (fun X hX=>?_) ?_
 ·go_simp
 simp only[Act.put,acts]
 refine tk 3 (.string ⟨n.text.toArray⟩) rfl hS (fun X hX=>?_) ?_
 ·obtain⟨hX1,hX2,hX3⟩:=hX;go_simp
 simp only[Act.put,acts]
 refine wpAnyH_all (rs:=[4]) (by kernel_rfl) (by simp) ?_
 intro i2 hi2
 obtain rfl:i2=4:=by simpa using hi2
 refine wpOp_step rfl (fun K0 hK0=>?_)
 rw[if_pos (by rfl)]
 go_simp
 refine hkn.mono ?_
 rintro e3 w3 ⟨rfl,hf3⟩
 have hfW3:Fr [] W w3:=((Fr.refl [] _).drew).trans hf3
 have hS3:=hS.fr hf3
 clear hS
 have hS:=hS3
 refine hK0 _ _ ⟨hS,?_⟩
 refine tk 5 (.bool (!Ck.known S.E s n.text)) rfl hS (fun X hX=>?_) ?_
 ·go_simp
 simp only[Act.put,acts]
 have hflt:=nfault_any (S:=S) (ms:=ms) (w:=w) (!Ck.known S.E s n.text) 63 (ks.length:Int) (w.heap.size+1+1+1) n (nf.h8.fr hfW3 (by simp)) (hKW.fr hfW3).low HM (rfl)
 refine wpAnyH_all (rs:=[6]) (by kernel_rfl) (by simp) ?_
 intro i2 hi2
 obtain rfl:i2=6:=by simpa using hi2
 refine wpOp_step rfl (fun K0 hK0=>?_)
 rw[if_pos (by rfl)]
 go_simp
 refine hflt.mono ?_
 rintro e4 V (⟨ft,rfl,hout⟩|⟨rfl,hVe,hq2,HM⟩)
 ·exact⟨rfl,hout⟩
 have hfV:Fr [] W V:=by rw[←hVe];exact hfW3
 replace nf:=nf.ct (Ct.of_fr hfV)
 replace hKW:=hKW.fr hfV
 replace hcW:=hcW.trans (Ct.of_fr hfV)
 refine hK0 _ _ ⟨by rw[←hVe];exact hS,wpAnyH_done (by kernel_rfl) ?_ _⟩
 clear hVe hfV
 have hea:=nf.each ih rest B s ms (by omega) HR.out HA.out.2 hms HB.out (by omega) (by omega) (by omega) hKW (by omega)
 obtain⟨c10,z10,s10,l10⟩:=nf.h10.rules
 obtain⟨c12,z12,s12,l12⟩:=nf.h12.rules
 go_wp2_with (fail)
 go_at_call 51
 refine hea.mono ?_
 rintro e5 w5 ho
 rcases ho.last HM hcW with⟨ft,h1,rfl,h3⟩|⟨s2,h1,rfl,K2,C2⟩
 ·exact⟨rfl,.inl ⟨ft,h1,rfl,h3⟩⟩
 ·go_wp2
  go_end0
  exact .inr ⟨s2,h1,rfl,K2,C2⟩
theorem node7_any {S:CSt} {N:Nat} (ih:NAny S N) (n:Ck.Node) (ks:List Tree) (rest:List Ck.Node) (i d k B:Nat) (s:CS) (ms:List Nat) (w:World) (hs:(Tree.mk n ks).size≤N+1) (hT:S.R.drop i=(Tree.mk n ks).row++rest) (hA:(Tree.mk n ks).all Shp) (hms:ms≠[]) (hb:Bd s B) (hB:B+(Tree.mk n ks).size≤1099511627776) (hsc:s.scopes.length≤d) (hlp:s.loops.length≤d) (hd:d≤257) (hkk:k≤1099511627776) (hK:CK S s ms w)
  (t2:(n.kind==2)=false) (t3:(n.kind==3)=false) (t4:(n.kind==4)=false) (t5:(n.kind==5)=false) (t6:(n.kind==6)=false) (t10:(n.kind==10)=false) (t11:(n.kind==11)=false) (t12:(n.kind==12)=false) (t25:(n.kind==25)=false) (t7:(n.kind==7)=true) (t23:(n.kind==23)=false) (t13:(n.kind==13)=false) (t14:(n.kind==14)=false) :
  Calls Tryz.prog 29 #[.pointer (some ⟨S.bp,0,none⟩),.int .i64 (i:Int),.int .i64 (d:Int),.int .i64 (k:Int)] w (COut S ms w (chk S.E (Tree.mk n ks) d k s)):=by
 obtain⟨r,hr⟩:∃r,Hid (chk S.E (Tree.mk n ks) d k s=r):=⟨_,rfl⟩
 rw[hr.out]
 have HM:Hid ((need (decide (256<d)) 71 n.at' >>= fun _=>(need (!known S.E s n.text) 63 n.at' >>= fun _=>chks S.E ks (d+1) 0 s))=r):=by
  have h1:=hr.out
  unfold chk at h1
  simp only[t2,t3,t4,t5,t6,t10,t11,t12,t25,t7,t23,t13,t14,Bool.or_false,Bool.false_or,Bool.or_true,Bool.true_or,Bool.or_self,Bool.false_eq_true,if_true,if_false,reduceIte]at h1
  exact h1
 clear hr
 obtain⟨hrow,hnode⟩:=row_tail hT
 have hszT:(Tree.mk n ks).size=sizes ks+1:=by simp[Tree.size]
 have hkl:ks.length≤sizes ks:=by rw[←rows_sizes];exact rowsGe ks
 have hil:(i:Int)<S.R.length:=by have:=(List.getElem?_eq_some_iff.1 hnode).1;omega
 have hx:n.text.length≤140737488351232:=(hK.ok _ (List.mem_of_getElem? hnode)).text
 obtain⟨sv,lv,hb0,_,_⟩:=hK.ex
 obtain⟨rc,rz,rset,rb⟩:=hb0.rules
 have hlim:=hK.lim;have hgl0:=hK.rat.gl
 obtain⟨rc0,hgl,rbk,n0,n1,n2,n3,n4,n5⟩:=nrd hK hnode
 obtain⟨W5,hW5⟩:∃X,X=nw S n i d ks w:=⟨_,rfl⟩
 obtain⟨hF5,k4,k5,k6,k8,k9,k10⟩:=hW5 ▸ npre S n i d ks w
 unfold nw at hW5
 have hK5:=hK.fr hF5
 obtain⟨sv5,lv5,hb5,_,_⟩:=hK5.ex
 have hk:=kids_any S.bp S.R rest i S.g S.c n ks hT hlim W5 hK5.rat _ hb5 rfl
 have hcw:=nfault_any (S:=S) (ms:=ms) (w:=w) (decide (256<(d:Int))) 71 (ks.length:Int) (w.heap.size+1+1+1) n k8 hK5.low HM (by simp;omega)
 have HK5:=Lib.hid hK5;have HT:=Lib.hid hT;have HR:=Lib.hid hrow;have HN:=Lib.hid hnode;have HA:=Lib.hid hA;have HF5:=Lib.hid hF5;have HKx:=Lib.hid hK;have HB:=Lib.hid hb
 clear hK5 hT hrow hnode hA hF5 hK hb hb5 HM hb0
 have hdi:(d:Int)≤300:=by omega
 have hki:(k:Int)≤1099511627776:=by omega
 go_enter Tryz.func29,Tryz.ntmps29
 go_wp2_with (fail)
 go_region
 go_wp2_with (fail)
 rw[←hW5]
 clear hW5 rc rz rset rb rc0 hgl0 hgl rbk n0 n1 n2 n3 n4 n5
 go_at_call 50
 refine hcw.mono ?_
 clear hcw
 rintro e1 w1 (⟨ft,rfl,hout⟩|⟨rfl,rfl,hq1,HM⟩)
 ·exact⟨rfl,hout⟩
 have hd2:d≤256:=by simpa using hq1
 obtain⟨c4,z4,s4,l4⟩:=k4.rules
 obtain⟨c5,z5,s5,l5⟩:=k5.rules
 go_wp2_with (fail)
 go_at_call 31
 refine hk.mono ?_
 clear hk c4 z4 s4 l4 c5 z5 s5 l5
 rintro e2 w2 ⟨v,rfl,hown,hf2⟩
 obtain⟨g',cur,sa,sc,rfl,hgb,hcur,hsa,hcap⟩:=kids_blk hown (k5.fr hf2 (by simp))
 obtain⟨W,hW⟩:∃X,X=w2.alloc (.cells #[.slice sa ks.length sc] 36):=⟨_,rfl⟩
 have hfW:Fr [] w2 W:=by rw[hW];exact(Fr.refl _ _).alloc _
 have hf5W:Fr [] W5 W:=hf2.trans hfW
 have nf:NF S n i d ks w.heap.size (w.heap.size+1) (w.heap.size+1+1) (w.heap.size+1+1+1) (w.heap.size+1+1+1+1) (w.heap.size+1+1+1+1+1) w2.heap.size g' sc sa cur W :=
  ⟨k4.fr hf5W (by simp),k5.fr hf5W (by simp),k6.fr hf5W (by simp),k8.fr hf5W (by simp),k9.fr hf5W (by simp),k10.fr hf5W (by simp),by rw[hW];exact Blk.new _ _ _,hgb.fr hfW (by simp),fun j q hj=>hcur j _ (by simp[ivals,hj]),fun hne=>hsa (List.length_pos_iff.2 hne),hcap⟩
 have hKW:=HK5.out.fr hf5W
 have hcW:Ct w W:=Ct.of_fr (HF5.out.trans hf5W)
 clear hfW hf5W hgb hcur hsa hown hf2 k4 k5 k6 k8 k9 k10 HK5 HF5
 go_upto_region 7 with(fail)
 rw[←hW]
 clear hW
 generalize w2.heap.size=b12 at *
 obtain⟨c8,z8,s8,l8⟩:=nf.h8.rules
 have hkn:=known_any (hKW.fr (Fr.refl [] _).drew) n.text (by simp[maxLen];omega)
 go_wp2_with (fail)
 have hS:(SR S w.heap.size (w.heap.size+1+1+1) (w.heap.size+1+1+1+1) n.text) W.drew:=nf.sr.drew
 refine wp_region_held (S:=SR S w.heap.size (w.heap.size+1+1+1) (w.heap.size+1+1+1+1) n.text) (by kernel_rfl) ?_
 refine tk 0 (.func (.func 50) #[] #[.pointer (some ⟨w.heap.size+1+1+1,0,none⟩)]) rfl hS (fun X hX=>?_) ?_
 ·obtain⟨hX1,hX2,hX3⟩:=hX;go_simp
 simp only[Act.put,acts]
 refine tk 1 (.pointer (some ⟨S.bp,0,none⟩)) rfl hS (fun X hX=>?_) ?_
 ·obtain⟨hX1,hX2,hX3⟩:=hX;go_simp
 simp only[Act.put,acts]
 refine tk 2 (.pointer (some ⟨w.heap.size+1+1+1,3,none⟩)) rfl hS (fun X hX=>?_) ?_
 ·go_simp
 simp only[Act.put,acts]
 refine tk 3 (.string ⟨n.text.toArray⟩) rfl hS (fun X hX=>?_) ?_
 ·obtain⟨hX1,hX2,hX3⟩:=hX;go_simp
 simp only[Act.put,acts]
 refine wpAnyH_all (rs:=[4]) (by kernel_rfl) (by simp) ?_
 intro i2 hi2
 obtain rfl:i2=4:=by simpa using hi2
 refine wpOp_step rfl (fun K0 hK0=>?_)
 rw[if_pos (by rfl)]
 go_simp
 refine hkn.mono ?_
 rintro e3 w3 ⟨rfl,hf3⟩
 have hfW3:Fr [] W w3:=((Fr.refl [] _).drew).trans hf3
 have hS3:=hS.fr hf3
 clear hS
 have hS:=hS3
 refine hK0 _ _ ⟨hS,?_⟩
 refine tk 5 (.bool (!Ck.known S.E s n.text)) rfl hS (fun X hX=>?_) ?_
 ·go_simp
 simp only[Act.put,acts]
 have hflt:=nfault_any (S:=S) (ms:=ms) (w:=w) (!Ck.known S.E s n.text) 63 (ks.length:Int) (w.heap.size+1+1+1) n (nf.h8.fr hfW3 (by simp)) (hKW.fr hfW3).low HM (rfl)
 refine wpAnyH_all (rs:=[6]) (by kernel_rfl) (by simp) ?_
 intro i2 hi2
 obtain rfl:i2=6:=by simpa using hi2
 refine wpOp_step rfl (fun K0 hK0=>?_)
 rw[if_pos (by rfl)]
 go_simp
 refine hflt.mono ?_
 rintro e4 V (⟨ft,rfl,hout⟩|⟨rfl,hVe,hq2,HM⟩)
 ·exact⟨rfl,hout⟩
 have hfV:Fr [] W V:=by rw[←hVe];exact hfW3
 replace nf:=nf.ct (Ct.of_fr hfV)
 replace hKW:=hKW.fr hfV
 replace hcW:=hcW.trans (Ct.of_fr hfV)
 refine hK0 _ _ ⟨by rw[←hVe];exact hS,wpAnyH_done (by kernel_rfl) ?_ _⟩
 clear hVe hfV
 have hea:=nf.each ih rest B s ms (by omega) HR.out HA.out.2 hms HB.out (by omega) (by omega) (by omega) hKW (by omega)
 obtain⟨c10,z10,s10,l10⟩:=nf.h10.rules
 obtain⟨c12,z12,s12,l12⟩:=nf.h12.rules
 go_wp2_with (fail)
 go_at_call 51
 refine hea.mono ?_
 rintro e5 w5 ho
 rcases ho.last HM hcW with⟨ft,h1,rfl,h3⟩|⟨s2,h1,rfl,K2,C2⟩
 ·exact⟨rfl,.inl ⟨ft,h1,rfl,h3⟩⟩
 ·go_wp2
  go_end0
  exact .inr ⟨s2,h1,rfl,K2,C2⟩
theorem node4_any {S:CSt} {N:Nat} (ih:NAny S N) (n:Ck.Node) (ks:List Tree) (rest:List Ck.Node) (i d k B:Nat) (s:CS) (ms:List Nat) (w:World) (hs:(Tree.mk n ks).size≤N+1) (hT:S.R.drop i=(Tree.mk n ks).row++rest) (hA:(Tree.mk n ks).all Shp) (hms:ms≠[]) (hb:Bd s B) (hB:B+(Tree.mk n ks).size≤1099511627776) (hsc:s.scopes.length≤d) (hlp:s.loops.length≤d) (hd:d≤257) (hkk:k≤1099511627776) (hK:CK S s ms w)
  (t2:(n.kind==2)=false) (t3:(n.kind==3)=false) (t4:(n.kind==4)=true) (t5:(n.kind==5)=false) (t6:(n.kind==6)=false) (t10:(n.kind==10)=false) (t11:(n.kind==11)=false) (t12:(n.kind==12)=false) (t25:(n.kind==25)=false) (t7:(n.kind==7)=false) (t23:(n.kind==23)=false) (t13:(n.kind==13)=false) (t14:(n.kind==14)=false) :
  Calls Tryz.prog 29 #[.pointer (some ⟨S.bp,0,none⟩),.int .i64 (i:Int),.int .i64 (d:Int),.int .i64 (k:Int)] w (COut S ms w (chk S.E (Tree.mk n ks) d k s)):=by
 obtain⟨r,hr⟩:∃r,Hid (chk S.E (Tree.mk n ks) d k s=r):=⟨_,rfl⟩
 rw[hr.out]
 have HM:Hid ((need (decide (256<d)) 71 n.at' >>= fun _=>(need (s.top.contains n.text) 80 n.at' >>= fun _=>need (decide (16≤k)) 81 n.at' >>= fun _=>chks S.E ks (d+1) 0 (s.add n.text)))=r):=by
  have h1:=hr.out
  unfold chk at h1
  simp only[t2,t3,t4,t5,t6,t10,t11,t12,t25,t7,t23,t13,t14,Bool.or_false,Bool.false_or,Bool.or_true,Bool.true_or,Bool.or_self,Bool.false_eq_true,if_true,if_false,reduceIte]at h1
  exact h1
 clear hr
 obtain⟨hrow,hnode⟩:=row_tail hT
 have hszT:(Tree.mk n ks).size=sizes ks+1:=by simp[Tree.size]
 have hkl:ks.length≤sizes ks:=by rw[←rows_sizes];exact rowsGe ks
 have hil:(i:Int)<S.R.length:=by have:=(List.getElem?_eq_some_iff.1 hnode).1;omega
 have hx:n.text.length≤140737488351232:=(hK.ok _ (List.mem_of_getElem? hnode)).text
 obtain⟨sv,lv,hb0,_,_⟩:=hK.ex
 obtain⟨rc,rz,rset,rb⟩:=hb0.rules
 have hlim:=hK.lim;have hgl0:=hK.rat.gl
 obtain⟨rc0,hgl,rbk,n0,n1,n2,n3,n4,n5⟩:=nrd hK hnode
 obtain⟨W5,hW5⟩:∃X,X=nw S n i d ks w:=⟨_,rfl⟩
 obtain⟨hF5,k4,k5,k6,k8,k9,k10⟩:=hW5 ▸ npre S n i d ks w
 unfold nw at hW5
 have hK5:=hK.fr hF5
 obtain⟨sv5,lv5,hb5,_,_⟩:=hK5.ex
 have hk:=kids_any S.bp S.R rest i S.g S.c n ks hT hlim W5 hK5.rat _ hb5 rfl
 have hcw:=nfault_any (S:=S) (ms:=ms) (w:=w) (decide (256<(d:Int))) 71 (ks.length:Int) (w.heap.size+1+1+1) n k8 hK5.low HM (by simp;omega)
 have HK5:=Lib.hid hK5;have HT:=Lib.hid hT;have HR:=Lib.hid hrow;have HN:=Lib.hid hnode;have HA:=Lib.hid hA;have HF5:=Lib.hid hF5;have HKx:=Lib.hid hK;have HB:=Lib.hid hb
 clear hK5 hT hrow hnode hA hF5 hK hb hb5 HM hb0
 have hdi:(d:Int)≤300:=by omega
 have hki:(k:Int)≤1099511627776:=by omega
 go_enter Tryz.func29,Tryz.ntmps29
 go_wp2_with (fail)
 go_region
 go_wp2_with (fail)
 rw[←hW5]
 clear hW5 rc rz rset rb rc0 hgl0 hgl rbk n0 n1 n2 n3 n4 n5
 go_at_call 50
 refine hcw.mono ?_
 clear hcw
 rintro e1 w1 (⟨ft,rfl,hout⟩|⟨rfl,rfl,hq1,HM⟩)
 ·exact⟨rfl,hout⟩
 have hd2:d≤256:=by simpa using hq1
 obtain⟨c4,z4,s4,l4⟩:=k4.rules
 obtain⟨c5,z5,s5,l5⟩:=k5.rules
 go_wp2_with (fail)
 go_at_call 31
 refine hk.mono ?_
 clear hk c4 z4 s4 l4 c5 z5 s5 l5
 rintro e2 w2 ⟨v,rfl,hown,hf2⟩
 obtain⟨g',cur,sa,sc,rfl,hgb,hcur,hsa,hcap⟩:=kids_blk hown (k5.fr hf2 (by simp))
 obtain⟨W,hW⟩:∃X,X=w2.alloc (.cells #[.slice sa ks.length sc] 36):=⟨_,rfl⟩
 have hfW:Fr [] w2 W:=by rw[hW];exact(Fr.refl _ _).alloc _
 have hf5W:Fr [] W5 W:=hf2.trans hfW
 have nf:NF S n i d ks w.heap.size (w.heap.size+1) (w.heap.size+1+1) (w.heap.size+1+1+1) (w.heap.size+1+1+1+1) (w.heap.size+1+1+1+1+1) w2.heap.size g' sc sa cur W :=
  ⟨k4.fr hf5W (by simp),k5.fr hf5W (by simp),k6.fr hf5W (by simp),k8.fr hf5W (by simp),k9.fr hf5W (by simp),k10.fr hf5W (by simp),by rw[hW];exact Blk.new _ _ _,hgb.fr hfW (by simp),fun j q hj=>hcur j _ (by simp[ivals,hj]),fun hne=>hsa (List.length_pos_iff.2 hne),hcap⟩
 have hKW:=HK5.out.fr hf5W
 have hcW:Ct w W:=Ct.of_fr (HF5.out.trans hf5W)
 clear hfW hf5W hgb hcur hsa hown hf2 k4 k5 k6 k8 k9 k10 HK5 HF5
 go_upto_region 7 with(fail)
 rw[←hW]
 clear hW
 generalize w2.heap.size=b12 at *
 obtain⟨c8,z8,s8,l8⟩:=nf.h8.rules
 obtain⟨m,ms,rfl⟩:∃m ms',ms=m::ms':=by
  cases ms with
  | nil=>exact absurd rfl hms
  | cons m ms'=>exact⟨m,ms',rfl⟩
 have htp:=top_any (hKW.fr (Fr.refl [] _).drew)
 have hset:=hKW.topSet
 go_wp2_with (fail)
 have hS:(SR S w.heap.size (w.heap.size+1+1+1) (w.heap.size+1+1+1+1) n.text) W.drew:=nf.sr.drew
 refine wp_region_held (S:=SR S w.heap.size (w.heap.size+1+1+1) (w.heap.size+1+1+1+1) n.text) (by kernel_rfl) ?_
 refine tk 0 (.func (.func 50) #[] #[.pointer (some ⟨w.heap.size+1+1+1,0,none⟩)]) rfl hS (fun X hX=>?_) ?_
 ·obtain⟨hX1,hX2,hX3⟩:=hX;go_simp
 simp only[Act.put,acts]
 refine tk 1 (.pointer (some ⟨S.bp,0,none⟩)) rfl hS (fun X hX=>?_) ?_
 ·obtain⟨hX1,hX2,hX3⟩:=hX;go_simp
 simp only[Act.put,acts]
 refine tk 3 (.pointer (some ⟨w.heap.size+1+1+1,3,none⟩)) rfl hS (fun X hX=>?_) ?_
 ·go_simp
 simp only[Act.put,acts]
 refine tk 4 (.string ⟨n.text.toArray⟩) rfl hS (fun X hX=>?_) ?_
 ·obtain⟨hX1,hX2,hX3⟩:=hX;go_simp
 simp only[Act.put,acts]
 refine wpAnyH_all (rs:=[2]) (by kernel_rfl) (by simp) ?_
 intro i2 hi2
 obtain rfl:i2=2:=by simpa using hi2
 refine wpOp_step rfl (fun K0 hK0=>?_)
 rw[if_pos (by rfl)]
 go_simp
 refine htp.mono ?_
 rintro e3 w3 ⟨rfl,hf3⟩
 have hfW3:Fr [] W w3:=((Fr.refl [] _).drew).trans hf3
 have hS3:=hS.fr hf3
 clear hS
 have hS:=hS3
 have hhas:=has_any m s.top n.text (by simp[maxLen];omega) w3 (hset.fr hfW3)
 obtain⟨tb,htb⟩:∃tb:Bool,s.top.contains n.text=tb:=⟨_,rfl⟩
 rw[htb]at hhas
 have HTB:=Lib.hid htb
 clear htb
 refine hK0 _ _ ⟨hS,?_⟩
 refine wpAnyH_all (rs:=[5]) (by kernel_rfl) (by simp) ?_
 intro i2 hi2
 obtain rfl:i2=5:=by simpa using hi2
 refine wpOp_step rfl (fun K0 hK0=>?_)
 rw[if_pos (by rfl)]
 go_simp
 refine hhas.mono ?_
 rintro e5 w5 ⟨rfl,hf5⟩
 have hfW5:Fr [] W w5:=hfW3.trans hf5
 have hS5:=hS.fr hf5
 clear hS
 have hS:=hS5
 refine hK0 _ _ ⟨hS,?_⟩
 have hflt:=nfault_any (S:=S) (ms:=m::ms) (w:=w) (tb) 80 (ks.length:Int) (w.heap.size+1+1+1) n (nf.h8.fr hfW5 (by simp)) (hKW.fr hfW5).low HM (HTB.out.symm)
 refine wpAnyH_all (rs:=[6]) (by kernel_rfl) (by simp) ?_
 intro i2 hi2
 obtain rfl:i2=6:=by simpa using hi2
 refine wpOp_step rfl (fun K0 hK0=>?_)
 rw[if_pos (by rfl)]
 go_simp
 refine hflt.mono ?_
 rintro e4 V (⟨ft,rfl,hout⟩|⟨rfl,hVe,hq2,HM⟩)
 ·exact⟨rfl,hout⟩
 have hfV:Fr [] W V:=by rw[←hVe];exact hfW5
 replace nf:=nf.ct (Ct.of_fr hfV)
 replace hKW:=hKW.fr hfV
 replace hcW:=hcW.trans (Ct.of_fr hfV)
 refine hK0 _ _ ⟨by rw[←hVe];exact hS,wpAnyH_done (by kernel_rfl) ?_ _⟩
 clear hVe hfV
 clear htp hset hf3 hfW3 hS3 hhas hf5 hfW5 hS5 hS
 clear hflt
 have hflt2:=nfault_any (S:=S) (ms:=m::ms) (w:=w) (decide (16≤(k:Int))) 81 (ks.length:Int) (w.heap.size+1+1+1) n nf.h8 hKW.low HM (by simp;try omega)
 obtain⟨c9,z9,s9,l9⟩:=nf.h9.rules
 go_wp2_with (fail)
 go_at_call 50
 refine hflt2.mono ?_
 clear hflt2 c9 z9 s9 l9
 rintro e8 V2 (⟨ft,rfl,hout⟩|⟨rfl,rfl,hq3,HM⟩)
 ·exact⟨rfl,hout⟩
 have htp:=top_any (hKW.fr (Fr.refl [] _).drew)
 have hset:=hKW.topSet
 go_wp2_with (fail)
 have hS:(SR S w.heap.size (w.heap.size+1+1+1) (w.heap.size+1+1+1+1) n.text) V.drew:=nf.sr.drew
 refine wp_region_held (S:=SR S w.heap.size (w.heap.size+1+1+1) (w.heap.size+1+1+1+1) n.text) (by kernel_rfl) ?_
 refine tk 0 (.pointer (some ⟨S.bp,0,none⟩)) rfl hS (fun X hX=>?_) ?_
 ·obtain⟨hX1,hX2,hX3⟩:=hX;go_simp
 simp only[Act.put,acts]
 refine tk 2 (.pointer (some ⟨w.heap.size+1+1+1,3,none⟩)) rfl hS (fun X hX=>?_) ?_
 ·go_simp
 simp only[Act.put,acts]
 refine tk 3 (.string ⟨n.text.toArray⟩) rfl hS (fun X hX=>?_) ?_
 ·obtain⟨hX1,hX2,hX3⟩:=hX;go_simp
 simp only[Act.put,acts]
 refine tk 4 (.agg #[]) rfl hS (fun X hX=>?_) ?_
 ·go_simp
 simp only[Act.put,acts]
 refine wpAnyH_all (rs:=[1]) (by kernel_rfl) (by simp) ?_
 intro i2 hi2
 obtain rfl:i2=1:=by simpa using hi2
 refine wpOp_step rfl (fun K0 hK0=>?_)
 rw[if_pos (by rfl)]
 go_simp
 refine htp.mono ?_
 rintro e6 w6 ⟨rfl,hf6⟩
 have hfW6:Fr [] V w6:=((Fr.refl [] _).drew).trans hf6
 refine hK0 _ _ ⟨hS.fr hf6,?_⟩
 obtain⟨nn,D,hown,hnn,hhas⟩:=hset.fr hfW6
 have hnl:nn<maxLen:=by have:=Bd.top HB.out;simp[maxLen];omega
 refine wpAnyH_all (rs:=[5]) (by kernel_rfl) (by simp) ?_
 intro i2 hi2
 obtain rfl:i2=5:=by simpa using hi2
 refine wpOp_step rfl (fun K0 hK0=>?_)
 rw[if_pos (by rfl)]
 refine wp_mapUpdate_step w6 _ _ _ 64 rfl 9 70 strKey Tryz.underlying64 unitElem m nn D rfl hown hnl _ _ _ rfl rfl (strKl (by simp[maxLen];omega)) (.agg []) [] unitElem_mk ?_
 intro w7 hown7 hg7
 obtain⟨hK7,hC7⟩:=(hKW.fr hfW6).putTop (x:=n.text) (by simp[maxLen];omega) hnn hown.isMap hhas hown7 hg7
 have hC8:Ct V w7:=(Ct.of_fr hfW6).trans hC7
 replace nf:=nf.ct hC8
 refine hK0 _ _ ⟨nf.sr,wpAnyH_done (by kernel_rfl) ?_ _⟩
 clear hK0 hS htp hset
 have hcW7:=hcW.trans hC8
 have hea:=nf.each ih rest (B+1) _ (m::ms) (by omega) HR.out HA.out.2 hms (HB.out.add n.text) (by have h1:=hK7.sets.length;have h2:=hKW.sets.length;omega) (by show s.loops.length≤_;omega) (by omega) hK7 (by omega)
 obtain⟨c10,z10,s10,l10⟩:=nf.h10.rules
 obtain⟨c12,z12,s12,l12⟩:=nf.h12.rules
 go_wp2_with (fail)
 go_at_call 51
 refine hea.mono ?_
 rintro e5 w5 ho
 rcases ho.last HM hcW7 with⟨ft,h1,rfl,h3⟩|⟨s2,h1,rfl,K2,C2⟩
 ·exact⟨rfl,.inl ⟨ft,h1,rfl,h3⟩⟩
 ·go_wp2
  go_end0
  exact .inr ⟨s2,h1,rfl,K2,C2⟩
theorem node6_any {S:CSt} {N:Nat} (ih:NAny S N) (n:Ck.Node) (ks:List Tree) (rest:List Ck.Node) (i d k B:Nat) (s:CS) (ms:List Nat) (w:World) (hs:(Tree.mk n ks).size≤N+1) (hT:S.R.drop i=(Tree.mk n ks).row++rest) (hA:(Tree.mk n ks).all Shp) (hms:ms≠[]) (hb:Bd s B) (hB:B+(Tree.mk n ks).size≤1099511627776) (hsc:s.scopes.length≤d) (hlp:s.loops.length≤d) (hd:d≤257) (hkk:k≤1099511627776) (hK:CK S s ms w)
  (t2:(n.kind==2)=false) (t3:(n.kind==3)=false) (t4:(n.kind==4)=false) (t5:(n.kind==5)=false) (t6:(n.kind==6)=true) (t10:(n.kind==10)=false) (t11:(n.kind==11)=false) (t12:(n.kind==12)=false) (t25:(n.kind==25)=false) (t7:(n.kind==7)=false) (t23:(n.kind==23)=false) (t13:(n.kind==13)=false) (t14:(n.kind==14)=false) :
  Calls Tryz.prog 29 #[.pointer (some ⟨S.bp,0,none⟩),.int .i64 (i:Int),.int .i64 (d:Int),.int .i64 (k:Int)] w (COut S ms w (chk S.E (Tree.mk n ks) d k s)):=by
 obtain⟨r,hr⟩:∃r,Hid (chk S.E (Tree.mk n ks) d k s=r):=⟨_,rfl⟩
 rw[hr.out]
 have HM:Hid ((need (decide (256<d)) 71 n.at' >>= fun _=>(need (s.top.contains n.text) 80 n.at' >>= fun _=>chks S.E ks (d+1) 0 s >>= fun s=>pure (s.add n.text)))=r):=by
  have h1:=hr.out
  unfold chk at h1
  simp only[t2,t3,t4,t5,t6,t10,t11,t12,t25,t7,t23,t13,t14,Bool.or_false,Bool.false_or,Bool.or_true,Bool.true_or,Bool.or_self,Bool.false_eq_true,if_true,if_false,reduceIte]at h1
  exact h1
 clear hr
 obtain⟨hrow,hnode⟩:=row_tail hT
 have hszT:(Tree.mk n ks).size=sizes ks+1:=by simp[Tree.size]
 have hkl:ks.length≤sizes ks:=by rw[←rows_sizes];exact rowsGe ks
 have hil:(i:Int)<S.R.length:=by have:=(List.getElem?_eq_some_iff.1 hnode).1;omega
 have hx:n.text.length≤140737488351232:=(hK.ok _ (List.mem_of_getElem? hnode)).text
 obtain⟨sv,lv,hb0,_,_⟩:=hK.ex
 obtain⟨rc,rz,rset,rb⟩:=hb0.rules
 have hlim:=hK.lim;have hgl0:=hK.rat.gl
 obtain⟨rc0,hgl,rbk,n0,n1,n2,n3,n4,n5⟩:=nrd hK hnode
 obtain⟨W5,hW5⟩:∃X,X=nw S n i d ks w:=⟨_,rfl⟩
 obtain⟨hF5,k4,k5,k6,k8,k9,k10⟩:=hW5 ▸ npre S n i d ks w
 unfold nw at hW5
 have hK5:=hK.fr hF5
 obtain⟨sv5,lv5,hb5,_,_⟩:=hK5.ex
 have hk:=kids_any S.bp S.R rest i S.g S.c n ks hT hlim W5 hK5.rat _ hb5 rfl
 have hcw:=nfault_any (S:=S) (ms:=ms) (w:=w) (decide (256<(d:Int))) 71 (ks.length:Int) (w.heap.size+1+1+1) n k8 hK5.low HM (by simp;omega)
 have HK5:=Lib.hid hK5;have HT:=Lib.hid hT;have HR:=Lib.hid hrow;have HN:=Lib.hid hnode;have HA:=Lib.hid hA;have HF5:=Lib.hid hF5;have HKx:=Lib.hid hK;have HB:=Lib.hid hb
 clear hK5 hT hrow hnode hA hF5 hK hb hb5 HM hb0
 have hdi:(d:Int)≤300:=by omega
 have hki:(k:Int)≤1099511627776:=by omega
 go_enter Tryz.func29,Tryz.ntmps29
 go_wp2_with (fail)
 go_region
 go_wp2_with (fail)
 rw[←hW5]
 clear hW5 rc rz rset rb rc0 hgl0 hgl rbk n0 n1 n2 n3 n4 n5
 go_at_call 50
 refine hcw.mono ?_
 clear hcw
 rintro e1 w1 (⟨ft,rfl,hout⟩|⟨rfl,rfl,hq1,HM⟩)
 ·exact⟨rfl,hout⟩
 have hd2:d≤256:=by simpa using hq1
 obtain⟨c4,z4,s4,l4⟩:=k4.rules
 obtain⟨c5,z5,s5,l5⟩:=k5.rules
 go_wp2_with (fail)
 go_at_call 31
 refine hk.mono ?_
 clear hk c4 z4 s4 l4 c5 z5 s5 l5
 rintro e2 w2 ⟨v,rfl,hown,hf2⟩
 obtain⟨g',cur,sa,sc,rfl,hgb,hcur,hsa,hcap⟩:=kids_blk hown (k5.fr hf2 (by simp))
 obtain⟨W,hW⟩:∃X,X=w2.alloc (.cells #[.slice sa ks.length sc] 36):=⟨_,rfl⟩
 have hfW:Fr [] w2 W:=by rw[hW];exact(Fr.refl _ _).alloc _
 have hf5W:Fr [] W5 W:=hf2.trans hfW
 have nf:NF S n i d ks w.heap.size (w.heap.size+1) (w.heap.size+1+1) (w.heap.size+1+1+1) (w.heap.size+1+1+1+1) (w.heap.size+1+1+1+1+1) w2.heap.size g' sc sa cur W :=
  ⟨k4.fr hf5W (by simp),k5.fr hf5W (by simp),k6.fr hf5W (by simp),k8.fr hf5W (by simp),k9.fr hf5W (by simp),k10.fr hf5W (by simp),by rw[hW];exact Blk.new _ _ _,hgb.fr hfW (by simp),fun j q hj=>hcur j _ (by simp[ivals,hj]),fun hne=>hsa (List.length_pos_iff.2 hne),hcap⟩
 have hKW:=HK5.out.fr hf5W
 have hcW:Ct w W:=Ct.of_fr (HF5.out.trans hf5W)
 clear hfW hf5W hgb hcur hsa hown hf2 k4 k5 k6 k8 k9 k10 HK5 HF5
 go_upto_region 7 with(fail)
 rw[←hW]
 clear hW
 generalize w2.heap.size=b12 at *
 obtain⟨c8,z8,s8,l8⟩:=nf.h8.rules
 obtain⟨m,ms,rfl⟩:∃m ms',ms=m::ms':=by
  cases ms with
  | nil=>exact absurd rfl hms
  | cons m ms'=>exact⟨m,ms',rfl⟩
 have htp:=top_any (hKW.fr (Fr.refl [] _).drew)
 have hset:=hKW.topSet
 go_wp2_with (fail)
 have hS:(SR S w.heap.size (w.heap.size+1+1+1) (w.heap.size+1+1+1+1) n.text) W.drew:=nf.sr.drew
 refine wp_region_held (S:=SR S w.heap.size (w.heap.size+1+1+1) (w.heap.size+1+1+1+1) n.text) (by kernel_rfl) ?_
 refine tk 0 (.func (.func 50) #[] #[.pointer (some ⟨w.heap.size+1+1+1,0,none⟩)]) rfl hS (fun X hX=>?_) ?_
 ·obtain⟨hX1,hX2,hX3⟩:=hX;go_simp
 simp only[Act.put,acts]
 refine tk 1 (.pointer (some ⟨S.bp,0,none⟩)) rfl hS (fun X hX=>?_) ?_
 ·obtain⟨hX1,hX2,hX3⟩:=hX;go_simp
 simp only[Act.put,acts]
 refine tk 3 (.pointer (some ⟨w.heap.size+1+1+1,3,none⟩)) rfl hS (fun X hX=>?_) ?_
 ·go_simp
 simp only[Act.put,acts]
 refine tk 4 (.string ⟨n.text.toArray⟩) rfl hS (fun X hX=>?_) ?_
 ·obtain⟨hX1,hX2,hX3⟩:=hX;go_simp
 simp only[Act.put,acts]
 refine wpAnyH_all (rs:=[2]) (by kernel_rfl) (by simp) ?_
 intro i2 hi2
 obtain rfl:i2=2:=by simpa using hi2
 refine wpOp_step rfl (fun K0 hK0=>?_)
 rw[if_pos (by rfl)]
 go_simp
 refine htp.mono ?_
 rintro e3 w3 ⟨rfl,hf3⟩
 have hfW3:Fr [] W w3:=((Fr.refl [] _).drew).trans hf3
 have hS3:=hS.fr hf3
 clear hS
 have hS:=hS3
 have hhas:=has_any m s.top n.text (by simp[maxLen];omega) w3 (hset.fr hfW3)
 obtain⟨tb,htb⟩:∃tb:Bool,s.top.contains n.text=tb:=⟨_,rfl⟩
 rw[htb]at hhas
 have HTB:=Lib.hid htb
 clear htb
 refine hK0 _ _ ⟨hS,?_⟩
 refine wpAnyH_all (rs:=[5]) (by kernel_rfl) (by simp) ?_
 intro i2 hi2
 obtain rfl:i2=5:=by simpa using hi2
 refine wpOp_step rfl (fun K0 hK0=>?_)
 rw[if_pos (by rfl)]
 go_simp
 refine hhas.mono ?_
 rintro e5 w5 ⟨rfl,hf5⟩
 have hfW5:Fr [] W w5:=hfW3.trans hf5
 have hS5:=hS.fr hf5
 clear hS
 have hS:=hS5
 refine hK0 _ _ ⟨hS,?_⟩
 have hflt:=nfault_any (S:=S) (ms:=m::ms) (w:=w) (tb) 80 (ks.length:Int) (w.heap.size+1+1+1) n (nf.h8.fr hfW5 (by simp)) (hKW.fr hfW5).low HM (HTB.out.symm)
 refine wpAnyH_all (rs:=[6]) (by kernel_rfl) (by simp) ?_
 intro i2 hi2
 obtain rfl:i2=6:=by simpa using hi2
 refine wpOp_step rfl (fun K0 hK0=>?_)
 rw[if_pos (by rfl)]
 go_simp
 refine hflt.mono ?_
 rintro e4 V (⟨ft,rfl,hout⟩|⟨rfl,hVe,hq2,HM⟩)
 ·exact⟨rfl,hout⟩
 have hfV:Fr [] W V:=by rw[←hVe];exact hfW5
 replace nf:=nf.ct (Ct.of_fr hfV)
 replace hKW:=hKW.fr hfV
 replace hcW:=hcW.trans (Ct.of_fr hfV)
 refine hK0 _ _ ⟨by rw[←hVe];exact hS,wpAnyH_done (by kernel_rfl) ?_ _⟩
 clear hVe hfV
 clear htp hset hf3 hfW3 hS3 hhas hf5 hfW5 hS5 hS
 clear hflt
 have hea:=nf.each ih rest B s (m::ms) (by omega) HR.out HA.out.2 hms HB.out (by omega) (by omega) (by omega) hKW (by omega)
 obtain⟨c10,z10,s10,l10⟩:=nf.h10.rules
 obtain⟨c12,z12,s12,l12⟩:=nf.h12.rules
 go_wp2_with (fail)
 go_at_call 51
 refine hea.mono ?_
 clear hea c10 z10 s10 l10 c12 z12 s12 l12
 rintro e5 V2 ho
 rcases ho.bindr HM hcW with⟨ft,rfl,hout⟩|⟨s2,rfl,hK2,hC2,hok,HM2⟩
 ·exact⟨rfl,hout⟩
 have hb2:=(chks_bd S.E ks (d+1) 0 B s s2 (all_imps (fun _ _ h=>h.1) ks HA.out.2) HB.out hok).1
 replace nf:=nf.ct hC2
 replace hcW:=hcW.trans hC2
 clear hKW
 have hKW:=hK2
 clear hK2 ho
 have htp:=top_any (hKW.fr (Fr.refl [] _).drew)
 have hset:=hKW.topSet
 go_wp2_with (fail)
 have hS:(SR S w.heap.size (w.heap.size+1+1+1) (w.heap.size+1+1+1+1) n.text) V2.drew:=nf.sr.drew
 refine wp_region_held (S:=SR S w.heap.size (w.heap.size+1+1+1) (w.heap.size+1+1+1+1) n.text) (by kernel_rfl) ?_
 refine tk 0 (.pointer (some ⟨S.bp,0,none⟩)) rfl hS (fun X hX=>?_) ?_
 ·obtain⟨hX1,hX2,hX3⟩:=hX;go_simp
 simp only[Act.put,acts]
 refine tk 2 (.pointer (some ⟨w.heap.size+1+1+1,3,none⟩)) rfl hS (fun X hX=>?_) ?_
 ·go_simp
 simp only[Act.put,acts]
 refine tk 3 (.string ⟨n.text.toArray⟩) rfl hS (fun X hX=>?_) ?_
 ·obtain⟨hX1,hX2,hX3⟩:=hX;go_simp
 simp only[Act.put,acts]
 refine tk 4 (.agg #[]) rfl hS (fun X hX=>?_) ?_
 ·go_simp
 simp only[Act.put,acts]
 refine wpAnyH_all (rs:=[1]) (by kernel_rfl) (by simp) ?_
 intro i2 hi2
 obtain rfl:i2=1:=by simpa using hi2
 refine wpOp_step rfl (fun K0 hK0=>?_)
 rw[if_pos (by rfl)]
 go_simp
 refine htp.mono ?_
 rintro e6 w6 ⟨rfl,hf6⟩
 have hfW6:Fr [] V2 w6:=((Fr.refl [] _).drew).trans hf6
 refine hK0 _ _ ⟨hS.fr hf6,?_⟩
 obtain⟨nn,D,hown,hnn,hhas⟩:=hset.fr hfW6
 have hnl:nn<maxLen:=by have:=Bd.top hb2;simp[maxLen];omega
 refine wpAnyH_all (rs:=[5]) (by kernel_rfl) (by simp) ?_
 intro i2 hi2
 obtain rfl:i2=5:=by simpa using hi2
 refine wpOp_step rfl (fun K0 hK0=>?_)
 rw[if_pos (by rfl)]
 refine wp_mapUpdate_step w6 _ _ _ 64 rfl 9 70 strKey Tryz.underlying64 unitElem m nn D rfl hown hnl _ _ _ rfl rfl (strKl (by simp[maxLen];omega)) (.agg []) [] unitElem_mk ?_
 intro w7 hown7 hg7
 obtain⟨hK7,hC7⟩:=(hKW.fr hfW6).putTop (x:=n.text) (by simp[maxLen];omega) hnn hown.isMap hhas hown7 hg7
 have hC8:Ct V2 w7:=(Ct.of_fr hfW6).trans hC7
 replace nf:=nf.ct hC8
 refine hK0 _ _ ⟨nf.sr,wpAnyH_done (by kernel_rfl) ?_ _⟩
 go_wp2
 go_end0
 exact .inr ⟨_,HM2.out.symm,rfl,hK7,hcW.trans hC8⟩
end Go.Proofs.YtoomapkcoibmhaaGreatDoor
end
section
open Go Go.Proofs Go.RowKit Go.Shelf Go.Maps Ck
namespace Go.Proofs.YtoomapkcoibmhaaGreatDoor
theorem wp_lookup_int_step {H:Type} {P:Program} (w:World) {o:Oper} {a:Act} {K':Act→World→Prop} {Q:Exit→Act→World→Prop} (m x:Operand) (t:TypeId) (hop:o.op=Op.lookup t m x true)
  (k e:TypeId) (q:IntKind) (K:Keyed P k) (ht:P.underlying t=some (.map k e)) (he:P.underlying e=some (.int q)) (hz:(zeroValue e).run P w=.ok (.int q 0) w) (b n:Nat) (D:DataW H)
  (hm:a.eval m=.map (some b)) (hown:w.ownsMap P k (plainElem P e) b n D) (key:Value) (kl:Lit) (hx:a.eval x=key) (hkey:keyOf P k key=some kl)
  (hK:∀c:Int,D.atKey kl (.lit (.int q 0))=.lit (.int q c)→K' (a.put o.dst (.tuple #[.int q c,.bool (Maps.has D kl)])) w) :
  Oper.wp P o a w K' Q:=by
 obtain⟨v,ps,hrun,hv⟩:=hown.look_ok K ht hz (plainElem_int he (by cases q<;>decide)) hkey
 unfold Oper.wp
 simp[execOp,hop,hm,hx,hrun,Result.andThen]
 obtain⟨c,rfl,hc,hwc⟩:=plainElem_int_inv he hv
 exact hK c (congrArg Prod.fst hc)
def SK (S:CSt) (b4 b6 b12 g' j d p:Nat) (v:Value) (X:World):Prop :=
 X.cell? ⟨b4,0,none⟩=some (.pointer (some ⟨S.bp,0,none⟩))∧X.cell? ⟨b12,0,none⟩=some v∧X.cell? ⟨g',j,none⟩=some (.int .i64 (p:Int))∧X.cell? ⟨b6,0,none⟩=some (.int .i64 (d:Int))
theorem CK.hw {S:CSt} {s:CS} {ms:List Nat} {w:World} (h:CK S s ms w):HW S w:=by
 obtain⟨sv,lv,hb,_,_⟩:=h.ex
 exact⟨⟨_,hb,rfl⟩,h.rat⟩
theorem _root_.Ck.chks_one (E:Env) (t:Tree) (d k:Nat) (s:CS):chks E [t] d k s=chk E t d k s:=by
 unfold chks chks
 cases chk E t d k s<;>rfl
theorem zeroI (w:World):(zeroValue 3).run Tryz.prog w=.ok (.int .i64 0) w:=by kernel_rfl
end Go.Proofs.YtoomapkcoibmhaaGreatDoor
end
