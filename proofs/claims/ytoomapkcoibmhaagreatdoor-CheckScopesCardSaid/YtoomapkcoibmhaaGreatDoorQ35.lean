/- A part of the proof. -/
import Derived.Test.YtoomapkcoibmhaaGreatDoorQ34
set_option maxRecDepth 100000
set_option maxHeartbeats 12800000
set_option linter.all false
section
open Go Go.Proofs Go.RowKit Go.Shelf Go.Maps Ck
namespace Go.Proofs.YtoomapkcoibmhaaGreatDoor
attribute [local go_sem] Oper.semAt_some
theorem node11a_any {S:CSt} {N:Nat} (ih:NAny S N) (n:Ck.Node) (ks:List Tree) (rest:List Ck.Node) (i d k B:Nat) (s:CS) (ms:List Nat) (w:World) (hs:(Tree.mk n ks).size≤N+1) (hT:S.R.drop i=(Tree.mk n ks).row++rest) (hA:(Tree.mk n ks).all Shp) (hms:ms≠[]) (hb:Bd s B) (hB:B+(Tree.mk n ks).size≤1099511627776) (hsc:s.scopes.length≤d) (hlp:s.loops.length≤d) (hd:d≤257) (hkk:k≤1099511627776) (hK:CK S s ms w)
  (HKL:Hid (¬ks.length=4)) (t2:(n.kind==2)=false) (t3:(n.kind==3)=false) (t4:(n.kind==4)=false) (t5:(n.kind==5)=false) (t6:(n.kind==6)=false) (t10:(n.kind==10)=false) (t11:(n.kind==11)=true) (t12:(n.kind==12)=false) (t25:(n.kind==25)=false) (t7:(n.kind==7)=false) (t23:(n.kind==23)=false) (t13:(n.kind==13)=false) (t14:(n.kind==14)=false) :
  Calls Tryz.prog 29 #[.pointer (some ⟨S.bp,0,none⟩),.int .i64 (i:Int),.int .i64 (d:Int),.int .i64 (k:Int)] w (COut S ms w (chk S.E (Tree.mk n ks) d k s)):=by
 obtain⟨r,hr⟩:∃r,Hid (chk S.E (Tree.mk n ks) d k s=r):=⟨_,rfl⟩
 rw[hr.out]
 have HM:Hid ((need (decide (256<d)) 71 n.at' >>= fun _=>(need (decide (1000<(Tree.mk n ks).size)) 85 n.at' >>= fun _=>chkF S.E ks (d+1) 0 n.text (if ks.length==4 then(ks.headD default).n.text else[]) s))=r):=by
  have h1:=hr.out
  unfold chk at h1
  simp only[t2,t3,t4,t5,t6,t10,t11,t12,t25,t7,t23,t13,t14,Bool.or_false,Bool.false_or,Bool.or_true,Bool.true_or,Bool.or_self,Bool.false_eq_true,if_true,if_false,reduceIte]at h1
  exact h1
 clear hr
 obtain⟨hrow,hnode⟩:=row_tail hT
 have hszT:(Tree.mk n ks).size=sizes ks+1:=by simp[Tree.size]
 have hkl:ks.length≤sizes ks:=by rw[←rows_sizes];exact rowsGe ks
 have hil:(i:Int)<S.R.length:=by have:=(List.getElem?_eq_some_iff.1 hnode).1;omega
 have hx:n.text.length≤140737488351232:=(hK.ok _ (List.mem_of_getElem? hnode)).text
 obtain⟨sv,lv,hb0,_,_⟩:=hK.ex
 obtain⟨rc,rz,rset,rb⟩:=hb0.rules
 have hlim:=hK.lim;have hgl0:=hK.rat.gl
 obtain⟨rc0,hgl,rbk,n0,n1,n2,n3,n4,n5⟩:=nrd hK hnode
 obtain⟨W5,hW5⟩:∃X,X=nw S n i d ks w:=⟨_,rfl⟩
 obtain⟨hF5,k4,k5,k6,k8,k9,k10⟩:=hW5 ▸ npre S n i d ks w
 unfold nw at hW5
 have hK5:=hK.fr hF5
 obtain⟨sv5,lv5,hb5,_,_⟩:=hK5.ex
 have hk:=kids_any S.bp S.R rest i S.g S.c n ks hT hlim W5 hK5.rat _ hb5 rfl
 have hcw:=nfault_any (S:=S) (ms:=ms) (w:=w) (decide (256<(d:Int))) 71 (ks.length:Int) (w.heap.size+1+1+1) n k8 hK5.low HM (by simp;omega)
 have HK5:=Lib.hid hK5;have HT:=Lib.hid hT;have HR:=Lib.hid hrow;have HN:=Lib.hid hnode;have HA:=Lib.hid hA;have HF5:=Lib.hid hF5;have HKx:=Lib.hid hK;have HB:=Lib.hid hb
 clear hK5 hT hrow hnode hA hF5 hK hb hb5 HM hb0
 have hdi:(d:Int)≤300:=by omega
 have hki:(k:Int)≤1099511627776:=by omega
 go_enter Tryz.func29,Tryz.ntmps29
 go_wp2_with (fail)
 go_region
 go_wp2_with (fail)
 rw[←hW5]
 clear hW5 rc rz rset rb rc0 hgl0 hgl rbk n0 n1 n2 n3 n4 n5
 go_at_call 50
 refine hcw.mono ?_
 clear hcw
 rintro e1 w1 (⟨ft,rfl,hout⟩|⟨rfl,rfl,hq1,HM⟩)
 ·exact⟨rfl,hout⟩
 have hd2:d≤256:=by simpa using hq1
 obtain⟨c4,z4,s4,l4⟩:=k4.rules
 obtain⟨c5,z5,s5,l5⟩:=k5.rules
 go_wp2_with (fail)
 go_at_call 31
 refine hk.mono ?_
 clear hk c4 z4 s4 l4 c5 z5 s5 l5
 rintro e2 w2 ⟨v,rfl,hown,hf2⟩
 obtain⟨g',cur,sa,sc,rfl,hgb,hcur,hsa,hcap⟩:=kids_blk hown (k5.fr hf2 (by simp))
 obtain⟨W,hW⟩:∃X,X=w2.alloc (.cells #[.slice sa ks.length sc] 36):=⟨_,rfl⟩
 have hfW:Fr [] w2 W:=by rw[hW];exact(Fr.refl _ _).alloc _
 have hf5W:Fr [] W5 W:=hf2.trans hfW
 have nf:NF S n i d ks w.heap.size (w.heap.size+1) (w.heap.size+1+1) (w.heap.size+1+1+1) (w.heap.size+1+1+1+1) (w.heap.size+1+1+1+1+1) w2.heap.size g' sc sa cur W :=
  ⟨k4.fr hf5W (by simp),k5.fr hf5W (by simp),k6.fr hf5W (by simp),k8.fr hf5W (by simp),k9.fr hf5W (by simp),k10.fr hf5W (by simp),by rw[hW];exact Blk.new _ _ _,hgb.fr hfW (by simp),fun j q hj=>hcur j _ (by simp[ivals,hj]),fun hne=>hsa (List.length_pos_iff.2 hne),hcap⟩
 have hKW:=HK5.out.fr hf5W
 have hcW:Ct w W:=Ct.of_fr (HF5.out.trans hf5W)
 clear hfW hf5W hgb hcur hsa hown hf2 k4 k5 k6 k8 k9 k10 HK5 HF5
 go_upto_region 7 with(fail)
 rw[←hW]
 clear hW
 generalize w2.heap.size=b12 at *
 obtain⟨c8,z8,s8,l8⟩:=nf.h8.rules
 have hA2:=HA.out.1
 have hml:=hKW.sets.length
 have hbig:=big_any S hlim { n with kids:=(ks.length:Int) } (Tree.mk n ks) rest i (w.heap.size+1+1+1) (w.heap.size+1+1+1+1) w.heap.size (w.heap.size+1) W HT.out hKW.hw nf.h8 nf.h9 nf.h4 nf.h5 (by omega)
 go_wp2_with (fail)
 go_at_call 52
 refine hbig.mono ?_
 rintro e6 w6 (⟨hbg,rfl,hf6⟩|⟨hbg,rfl,hf6⟩)
 ·refine⟨rfl,.inl ⟨⟨85,n.at'⟩,?_,rfl,(hKW.fr hf6).low⟩⟩
  have h1:=HM.out
  rw[show decide (1000<(Tree.mk n ks).size)=true from decide_eq_true hbg]at h1
  exact h1.symm
 have hk3:3≤ks.length:=hA2.2.1.1 (by simpa using t11)
 obtain⟨ini,b,hks⟩:∃ini b,ks=ini++[b]:=⟨ks.dropLast,ks.getLast (by rintro rfl;simp at hk3),(List.dropLast_concat_getLast (by rintro rfl;simp at hk3)).symm⟩
 obtain⟨m,hm⟩:∃m,ini.length=m:=⟨_,rfl⟩
 have hkm:ks.length=m+1:=by rw[hks];simp[hm]
 have hszk:sizes ks=sizes ini+b.size:=by rw[hks,sizes_snoc]
 have HM3:Hid ((chks S.E ini (d+1) 0 s >>= fun s1=>(chk S.E b (d+1) m { s1 with loops:=([]:Bytes)::s1.loops,scopes:=[n.text]::s1.scopes } >>= fun s'=>pure { s' with loops:=s'.loops.tail,scopes:=s'.scopes.tail }))=r):=by
  have h1:=HM.out
  rw[show decide (1000<(Tree.mk n ks).size)=false from decide_eq_false hbg]at h1
  have h2:chkF S.E ks (d+1) 0 n.text (if ks.length==4 then(ks.headD default).n.text else[]) s=r:=h1
  rw[labNo HKL.out]at h2
  rw[hks,chkF_split,Nat.zero_add,hm]at h2
  exact h2
 replace nf:=nf.ct (Ct.of_fr hf6)
 replace hKW:=hKW.fr hf6
 replace hcW:=hcW.trans (Ct.of_fr hf6)
 have hrI:S.R.drop (i+1)=rows ini++(b.row++rest):=by
  rw[HR.out,hks,rows_append];simp[rows]
 obtain⟨pb,hpb⟩:∃pb,i+1+(rows ini).length=pb:=⟨_,rfl⟩
 have hrB:S.R.drop pb=b.row++rest:=by
  rw[←hpb,←List.drop_drop,hrI];simp
 have hkp:kpos (i+1) ks=kpos (i+1) ini++[pb]:=by rw[hks,kpos_append,hpb];rfl
 have hkl2:(kpos (i+1) ini).length=m:=by rw[kpos_length,hm]
 have hcurb:cur[m]? = some (Value.int .i64 (pb:Int)):=nf.hc m pb (by rw[hkp,List.getElem?_append_right (by omega),hkl2];simp)
 have hcI:∀(j q:Nat),(kpos (i+1) ini)[j]? = some q→cur[j]? = some (Value.int .i64 (q:Int)):=fun j q hj=>nf.hc j q (by
  rw[hkp,List.getElem?_append_left (List.getElem?_eq_some_iff.1 hj).1,hj])
 have htAI:alls Shp ini:=by
  have h1:=HA.out.2
  have:∀t∈ini,t.all Shp:=fun t ht=>alls_mem h1 t (by rw[hks];simp[ht])
  exact alls_of this
 have htAb:b.all Shp:=alls_mem HA.out.2 b (by rw[hks];simp)
 obtain rfl:=nf.hsa (by rintro rfl;simp at hk3)
 have hmi:(ks.length:Int)-1=(m:Int):=by omega
 have hml3:(m:Int)≤1099511627776:=by omega
 have hcapm:(m:Int)≤sc:=by have:=nf.cap.1;omega
 have hcapm2:(sc:Int)≤9223372036854775807:=by have:=nf.cap.2;unfold maxLen at this;omega
 have hm30:((m:Int)==3)=false:=by have:=HKL.out;rw[beq_eq_false_iff_ne];omega
 have HKM:=Lib.hid hkm;have HKS:=Lib.hid hks;have HK3:=Lib.hid hk3
 clear hbig HM hkm hks hk3 hf6 c8 z8 s8 l8 hkp hkl2
 have HM:=HM3
 clear HM3
 obtain⟨c12,z12,s12,l12⟩:=nf.h12.rules
 obtain⟨W7,hW7⟩:∃X,X=w6.alloc (.cells #[.int .i64 (m:Int)] 3):=⟨_,rfl⟩
 have hf7:Fr [] w6 W7:=by rw[hW7];exact(Fr.refl _ _).alloc _
 have h15:Blk W7 w6.heap.size #[.int .i64 (m:Int)] 3:=by rw[hW7];exact Blk.new _ _ _
 go_wp2_with (fail)
 rw[←hW7]
 clear hW7 c12 z12 s12 l12
 replace nf:=nf.ct (Ct.of_fr hf7)
 replace hKW:=hKW.fr hf7
 replace hcW:=hcW.trans (Ct.of_fr hf7)
 clear hf7
 generalize w6.heap.size=b15 at *
 have hea:=each_any ih ini (b.row++rest) (i+1) d B s ms W7.drew g' sc w.heap.size (w.heap.size+1+1) (some ⟨g',0,none⟩) cur (by omega) hrI htAI hms HB.out (by omega) (by omega) (by omega) (hKW.fr (Fr.refl [] _).drew) (by omega) (nf.hg.fr (Fr.refl [] _).drew List.not_mem_nil) hcI (fun _=>rfl) (nf.h4.fr (Fr.refl [] _).drew List.not_mem_nil) (nf.h6.fr (Fr.refl [] _).drew List.not_mem_nil)
 rw[hm]at hea
 have hS:(SM w.heap.size (w.heap.size+1+1) (w.heap.size+1+1+1+1+1) b12 b15 m (.slice (some ⟨g',0,none⟩) ks.length sc)) W7.drew:=⟨nf.h10.rules.1 0,nf.h12.rules.1 0,h15.rules.1 0⟩
 refine wp_region_held (S:=SM w.heap.size (w.heap.size+1+1) (w.heap.size+1+1+1+1+1) b12 b15 m (.slice (some ⟨g',0,none⟩) ks.length sc)) (by kernel_rfl) ?_
 refine tk 0 (.func (.func 51) #[] #[.pointer (some ⟨w.heap.size,0,none⟩),.pointer (some ⟨w.heap.size+1+1,0,none⟩)]) rfl hS (fun X hX=>?_) ?_
 ·obtain⟨hX1,hX2,hX3⟩:=hX;go_simp
 simp only[Act.put,acts]
 refine tk 1 (.slice (some ⟨g',0,none⟩) ks.length sc) rfl hS (fun X hX=>?_) ?_
 ·obtain⟨hX1,hX2,hX3⟩:=hX;go_simp
 simp only[Act.put,acts]
 refine tk 2 (.int .i64 (m:Int)) rfl hS (fun X hX=>?_) ?_
 ·obtain⟨hX1,hX2,hX3⟩:=hX;go_simp
 simp only[Act.put,acts]
 refine tk 3 (.slice (some ⟨g',0,none⟩) m sc) rfl hS (fun X hX=>?_) ?_
 ·go_simp
 simp only[Act.put,acts]
 refine wpAnyH_all (rs:=[4]) (by kernel_rfl) (by simp) ?_
 intro i2 hi2
 obtain rfl:i2=4:=by simpa using hi2
 refine wpOp_step rfl (fun K0 hK0=>?_)
 rw[if_pos (by kernel_rfl)]
 go_simp
 refine hea.mono ?_
 rintro e7 wv ho
 rcases ho.bindr HM (hcW.trans (Ct.of_fr (Fr.refl [] _).drew)) with⟨ft,rfl,hout⟩|⟨s1,rfl,hK2,hC2,hok0,HM2⟩
 ·exact⟨rfl,hout⟩
 have hC3:Ct W7 wv:=(Ct.of_fr (Fr.refl [] _).drew).trans hC2
 replace nf:=nf.ct hC3
 have h15a:=hC3.kept _ _ _ (by decide) (by decide) (by decide) h15
 refine hK0 _ _ ⟨⟨nf.h10.rules.1 0,nf.h12.rules.1 0,h15a.rules.1 0⟩,wpAnyH_done (by kernel_rfl) ?_ _⟩
 replace hcW:=hcW.trans hC3
 clear hKW HM h15
 have hKW:=hK2
 have HM:=HM2
 have h15:=h15a
 clear hK2 HM2 hS hea ho hC3 hC2 h15a
 have hbd1:=chks_bd S.E ini (d+1) 0 B s s1 (all_imps (fun _ _ h=>h.1) ini htAI) HB.out hok0
 have hs1l:s1.scopes.length≤d:=by rw[←hKW.sets.length,hml];exact hsc
 have hl1l:s1.loops.length≤d:=by rw[hbd1.2];exact hlp
 have HBD:=Lib.hid hbd1
 have HML:=Lib.hid hml
 clear hbd1 hml
 obtain⟨c15,z15,s15,l15⟩:=h15.rules
 obtain⟨sv,lv,hbk0,hsr0,hlr0⟩:=hKW.ex
 have hbk:=hbk0.fr (Fr.refl [] wv).drew (by simp)
 have hsr:=ownsRow_frN hsr0 (Fr.refl [] wv).drew
 have hlr:=ownsRow_frN hlr0 (Fr.refl [] wv).drew
 have hrow9:=row_blk hlr
 have hKd:=hKW.fr (Fr.refl [] wv).drew
 obtain⟨i0,hi0,hz0,hz1,hz2⟩:=info_parts Tryz.infoStr
 obtain⟨cb,zb,sb,lb9⟩:=hbk0.rules
 obtain⟨c4,z4,s4,l4⟩:=nf.h4.rules
 obtain⟨c8,z8,s8,l8⟩:=nf.h8.rules
 have hbb9:=hKW.bw
 have HB1:Hid (s1.loops.length+1≤maxLen):=by show _≤_;simp[maxLen];omega
 have HB2:Hid ((s1.loops.length+1)*16≤140737488355328):=by show _≤_;omega
 have HB3:Hid (S.base≤(wv.drew.alloc (.cells #[.string ⟨([]:Bytes).toArray⟩] 9)).heap.size):=by show _≤_;simp;omega
 have hn4:∀k,lv.ownBlock=some k→∀c T,T≠9→Blk wv.drew k c T→False:=fun k e c T hT hB=>by
  obtain⟨_,c2,hB2⟩:=hrow9 k e
  have:=hB2.symm.trans hB
  simp at this
  exact hT this.2.symm
 have hbkN:∀k,lv.ownBlock=some k→k≠S.bp:=fun k e e2=>by subst e2;exact hn4 _ e _ _ (by decide) hbk
 have h4d:=nf.h4.fr (Fr.refl [] wv).drew (by simp)
 have h8d:=nf.h8.fr (Fr.refl [] wv).drew (by simp)
 have h9d:=nf.h9.fr (Fr.refl [] wv).drew (by simp)
 have h4N:∀k,lv.ownBlock=some k→k≠w.heap.size:=fun k e e2=>by subst e2;exact hn4 _ e _ _ (by decide) h4d
 go_wp2_with (fail)
 go_cut [] (fun X=>Hid (CK S { s1 with loops:=([]:Bytes)::s1.loops } ms X∧Ct wv X))
 case first =>
  skip
  have hS:(SR S w.heap.size (w.heap.size+1+1+1) (w.heap.size+1+1+1+1) n.text) wv.drew:=nf.sr.drew
  refine wp_region_held (S:=SR S w.heap.size (w.heap.size+1+1+1) (w.heap.size+1+1+1+1) n.text) (by kernel_rfl) ?_
  refine tk 0 (.pointer (some ⟨S.bp,0,none⟩)) rfl hS (fun X hX=>?_) ?_
  ·obtain⟨hX1,hX2,hX3⟩:=hX;go_simp
  simp only[Act.put,acts]
  refine tk 1 (.pointer (some ⟨S.bp,0,none⟩)) rfl hS (fun X hX=>?_) ?_
  ·obtain⟨hX1,hX2,hX3⟩:=hX;go_simp
  simp only[Act.put,acts]
  refine tk 2 (.pointer (some ⟨S.bp,0,none⟩)) rfl hS (fun X hX=>?_) ?_
  ·go_simp
  simp only[Act.put,acts]
  refine tk 3 (.pointer (some ⟨S.bp,6,none⟩)) rfl hS (fun X hX=>?_) ?_
  ·go_simp
  simp only[Act.put,acts]
  refine tk 5 (.string ⟨([]:Bytes).toArray⟩) rfl hS (fun X hX=>?_) ?_
  ·go_simp
  simp only[Act.put,acts]
  refine wpAnyH_all (rs:=[4,6]) (by kernel_rfl) (by simp) ?_
  intro i2 hi2
  obtain rfl|rfl:i2=4∨i2=6:=by simpa using hi2
  ·refine wpOp_step rfl (fun K0 hK0=>?_)
   rw[if_pos (by kernel_rfl)]
   go_simp
   refine hK0 _ _ ⟨hS,?_⟩
   refine wpAnyH_all (rs:=[6]) (by kernel_rfl) (by simp) ?_
   intro i2 hi2
   obtain rfl:i2=6:=by simpa using hi2
   refine wpOp_step rfl (fun K0 hK0=>?_)
   rw[if_pos (by kernel_rfl)]
   go_simp
   refine hK0 _ _ ⟨hS.fr ((Fr.refl [] _).alloc _),?_⟩
   refine wpAnyH_all (rs:=[7]) (by kernel_rfl) (by simp) ?_
   intro i2 hi2
   obtain rfl:i2=7:=by simpa using hi2
   refine wpOp_step rfl (fun K0 hK0=>?_)
   rw[if_pos (by kernel_rfl)]
   refine wp_append_lies _ (.tmp 221) (.tmp 223) 67 rfl S.base 9 i0 (.string ⟨#[]⟩) 1 16 Tryz.underlying67 hi0 hz0 hz1 hz2 rfl (by decide) lv s1.loops.length (svals s1.loops.reverse) rfl (hlr.alloc _) ⟨wv.heap.size,0,none⟩ 1 1 [.string ⟨([]:Bytes).toArray⟩] rfl rfl (cell_one_new _ _ _) (by simp[Value.oneCell']) Nat.one_pos HB1.out HB2.out HB3.out _ rfl ?_
   intro g2 cap2 w8 hown8 hg8 hat8 hlt8
   obtain⟨qc,qz,qset,qb⟩:=((hbk.alloc _).grown hg8 (fun e=>hbkN _ e rfl)).rules
   have hS8:(SR S w.heap.size (w.heap.size+1+1+1) (w.heap.size+1+1+1+1) n.text) w8:=⟨((h9d.alloc _).grown hg8 (fun e=>hn4 _ e _ _ (by decide) h9d)).rules.1 0,((h4d.alloc _).grown hg8 (fun e=>hn4 _ e _ _ (by decide) h4d)).rules.1 0,((h8d.alloc _).grown hg8 (fun e=>hn4 _ e _ _ (by decide) h8d)).rules.1 3⟩
   obtain⟨q1,q2⟩:=CK.pushLoop hKd hbk hsr hlr _ hown8 hg8
   have hCq:=(Ct.of_fr (Fr.refl [] wv).drew).trans q2
   refine hK0 _ _ ⟨hS8,?_⟩
   clear hS
   have hS:=hS8
   refine tk 8 (.pointer (some ⟨S.bp,0,none⟩)) rfl hS (fun X hX=>?_) ?_
   ·go_simp
   simp only[Act.put,acts]
   refine tk 9 (.pointer (some ⟨S.bp,6,none⟩)) rfl hS (fun X hX=>?_) ?_
   ·go_simp
   simp only[Act.put,acts]
   refine wpAnyH_all (rs:=[10]) (by kernel_rfl) (by simp) ?_
   intro i2 hi2
   obtain rfl:i2=10:=by simpa using hi2
   refine wpOp_step rfl (fun K0 hK0=>?_)
   rw[if_pos (by kernel_rfl)]
   go_simp
   refine hK0 _ _ ⟨(nf.ct hCq).sr,wpAnyH_done (by kernel_rfl) ?_ _⟩
   go_wp2
   go_meet
   case rel=>exact⟨q1,hCq⟩
  ·refine wpOp_step rfl (fun K0 hK0=>?_)
   rw[if_pos (by kernel_rfl)]
   go_simp
   refine hK0 _ _ ⟨hS.fr ((Fr.refl [] _).alloc _),?_⟩
   refine wpAnyH_all (rs:=[4]) (by kernel_rfl) (by simp) ?_
   intro i2 hi2
   obtain rfl:i2=4:=by simpa using hi2
   refine wpOp_step rfl (fun K0 hK0=>?_)
   rw[if_pos (by kernel_rfl)]
   go_simp
   refine hK0 _ _ ⟨hS.fr ((Fr.refl [] _).alloc _),?_⟩
   refine wpAnyH_all (rs:=[7]) (by kernel_rfl) (by simp) ?_
   intro i2 hi2
   obtain rfl:i2=7:=by simpa using hi2
   refine wpOp_step rfl (fun K0 hK0=>?_)
   rw[if_pos (by kernel_rfl)]
   refine wp_append_lies _ (.tmp 221) (.tmp 223) 67 rfl S.base 9 i0 (.string ⟨#[]⟩) 1 16 Tryz.underlying67 hi0 hz0 hz1 hz2 rfl (by decide) lv s1.loops.length (svals s1.loops.reverse) rfl (hlr.alloc _) ⟨wv.heap.size,0,none⟩ 1 1 [.string ⟨([]:Bytes).toArray⟩] rfl rfl (cell_one_new _ _ _) (by simp[Value.oneCell']) Nat.one_pos HB1.out HB2.out HB3.out _ rfl ?_
   intro g2 cap2 w8 hown8 hg8 hat8 hlt8
   obtain⟨qc,qz,qset,qb⟩:=((hbk.alloc _).grown hg8 (fun e=>hbkN _ e rfl)).rules
   have hS8:(SR S w.heap.size (w.heap.size+1+1+1) (w.heap.size+1+1+1+1) n.text) w8:=⟨((h9d.alloc _).grown hg8 (fun e=>hn4 _ e _ _ (by decide) h9d)).rules.1 0,((h4d.alloc _).grown hg8 (fun e=>hn4 _ e _ _ (by decide) h4d)).rules.1 0,((h8d.alloc _).grown hg8 (fun e=>hn4 _ e _ _ (by decide) h8d)).rules.1 3⟩
   obtain⟨q1,q2⟩:=CK.pushLoop hKd hbk hsr hlr _ hown8 hg8
   have hCq:=(Ct.of_fr (Fr.refl [] wv).drew).trans q2
   refine hK0 _ _ ⟨hS8,?_⟩
   clear hS
   have hS:=hS8
   refine tk 8 (.pointer (some ⟨S.bp,0,none⟩)) rfl hS (fun X hX=>?_) ?_
   ·go_simp
   simp only[Act.put,acts]
   refine tk 9 (.pointer (some ⟨S.bp,6,none⟩)) rfl hS (fun X hX=>?_) ?_
   ·go_simp
   simp only[Act.put,acts]
   refine wpAnyH_all (rs:=[10]) (by kernel_rfl) (by simp) ?_
   intro i2 hi2
   obtain rfl:i2=10:=by simpa using hi2
   refine wpOp_step rfl (fun K0 hK0=>?_)
   rw[if_pos (by kernel_rfl)]
   go_simp
   refine hK0 _ _ ⟨(nf.ct hCq).sr,wpAnyH_done (by kernel_rfl) ?_ _⟩
   go_wp2
   go_meet
   case rel=>exact⟨q1,hCq⟩
 case' rest=>skip
 obtain⟨hK9,hC9⟩:=hcut.out
 clear hcut
 replace nf:=nf.ct hC9
 replace hcW:=hcW.trans hC9
 have h15a:=hC9.kept _ _ _ (by decide) (by decide) (by decide) h15
 clear hKW hC9 h15
 have hKW:=hK9
 have h15:=h15a
 clear hK9 h15a
 obtain⟨c4,z4,s4,l4⟩:=nf.h4.rules
 obtain⟨c8,z8,s8,l8⟩:=nf.h8.rules
 have hmm:=@run_makeMap Tryz.prog
 have hB1:Bd { s1 with loops:=([]:Bytes)::s1.loops,scopes:=[n.text]::s1.scopes } (B+sizes ini+1):=((HBD.out.1.mono (Nat.le_succ _)).loops (([]:Bytes)::s1.loops)).push [n.text] (by simp)
 obtain⟨w10,hrun10,hset,hg10⟩:=fresh_insert wc n.text (by simp[maxLen];omega)
 go_wp2_with (fail)
 have hf10:Fr [] wc w10:=((Fr.refl [] wc).alloc _).grown hg10 (fun k e=>.inr (by injection e with e;omega))
 have nf10:=nf.ct (Ct.of_fr hf10)
 have h15b:=h15.fr hf10 List.not_mem_nil
 have hin:=inner6_any #[.pointer (some ⟨w.heap.size,0,none⟩),.pointer (some ⟨b12,0,none⟩),.pointer (some ⟨b15,0,none⟩),.pointer (some ⟨w.heap.size+1+1,0,none⟩)] wc.heap.size [n.text] (chk S.E b (d+1) m { s1 with loops:=([]:Bytes)::s1.loops,scopes:=[n.text]::s1.scopes }) (hKW.fr hf10) hset (fresh_map hKW) hKW.bw (by show s1.scopes.length≤1000;omega) (fun w1 k1 q1=>body6_any S (wc.heap.size::ms) _ g' ks.length sc m d pb cur w.heap.size b12 b15 (w.heap.size+1+1) w1 (nf10.ct q1).h4 (nf10.ct q1).h12 (q1.kept _ _ _ (by decide) (by decide) (by decide) h15b) (nf10.ct q1).h6 (nf10.ct q1).hg (by have:=HKM.out;omega) (by omega) (by omega) hcurb (fun q=>ih b rest pb (d+1) m (B+sizes ini+1) _ (wc.heap.size::ms) (w1.drewN q) (by omega) hrB htAb (by simp) hB1 (by omega) (by simp;omega) (by simp;omega) (by omega) (by omega) (k1.fr ((Fr.refl [] _).drewN q))))
 go_at_call 56
 refine hin.mono ?_
 have HM2:=Lib.hid ((popF _).symm.trans HM.out)
 clear hin hmm c4 z4 s4 l4 c8 z8 s8 l8 HM
 rintro e11 w11 ho
 rcases ho.bindr HM2 (hcW.trans (Ct.of_fr hf10)) with⟨ft,rfl,hout⟩|⟨s3,rfl,hK2,hC2,hok3,HM⟩
 ·exact⟨rfl,hout⟩
 obtain⟨s4,hok4,hs43⟩:=bok hok3
 have hbd4:=chk_bd S.E b (d+1) m (B+sizes ini+1) _ s4 (all_imp (fun _ _ h=>h.1) b htAb) hB1 hok4
 have hlp3:s3.loops=([]:Bytes)::s1.loops:=by cases hs43;exact hbd4.2
 replace nf:=nf10.ct hC2
 replace hcW:=(hcW.trans (Ct.of_fr hf10)).trans hC2
 clear hKW nf10 hset hrun10 hg10 hf10 hok3 hok4 hs43 hbd4 ho hC2 h15 h15b HM2
 have hKW:=hK2
 clear hK2
 obtain⟨sv3,lv3,b1,b2,b3⟩:=hKW.ex
 obtain⟨mm,hmm⟩:∃mm,s3.loops.length=mm+1:=⟨s1.loops.length,by rw[hlp3];rfl⟩
 have hm3':mm≤300:=by rw[hlp3]at hmm;simp at hmm;omega
 rw[hmm]at b3
 obtain⟨g3,cap3,rfl⟩:=ownsRow_succ b3
 have hnm:(mm:Int)≤300:=by omega
 have hcap3:mm+1≤cap3:=(ownsRow_cap b3).1
 have hcap4:(cap3:Int)≤9223372036854775807:=by have:=(ownsRow_cap b3).2;unfold maxLen at this;omega
 obtain⟨yc,yz,yset,yb⟩:=b1.rules
 obtain⟨c4,z4,s4',l4⟩:=nf.h4.rules
 have B1:=Lib.hid b1;have B2:=Lib.hid b2;have B3:=Lib.hid b3;have H9:=Lib.hid hKW;have HL3:=Lib.hid hlp3;have HM9:=Lib.hid HM;have HC9:=Lib.hid hcW
 clear b1 b2 b3 hKW hlp3 HM hcW hmm hB1 nf hcurb hcI htAI htAb hrI hrB hok0
 go_wp2
 go_region
 all_goals go_wp2
 all_goals go_end0
 all_goals
  obtain⟨hq,cq⟩:=H9.out.popLoop HL3.out B1.out B2.out B3.out
  exact .inr ⟨_,HM9.out.out.symm,rfl,hq.fr (Fr.refl _ _).drew,(HC9.out.trans cq).trans (Ct.of_fr (Fr.refl _ _).drew)⟩
end Go.Proofs.YtoomapkcoibmhaaGreatDoor
end
