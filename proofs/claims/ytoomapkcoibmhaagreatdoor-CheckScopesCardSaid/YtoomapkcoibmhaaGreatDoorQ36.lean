/- A part of the proof. -/
import Derived.Test.YtoomapkcoibmhaaGreatDoorQ5
import Derived.Test.YtoomapkcoibmhaaGreatDoorQ30
import Derived.Test.YtoomapkcoibmhaaGreatDoorQ31
import Derived.Test.YtoomapkcoibmhaaGreatDoorQ32
import Derived.Test.YtoomapkcoibmhaaGreatDoorQ33
import Derived.Test.YtoomapkcoibmhaaGreatDoorQ35
set_option maxRecDepth 100000
set_option maxHeartbeats 12800000
set_option linter.all false
section
open Go Go.Proofs Go.RowKit Go.Shelf Go.Maps Ck
namespace Go.Proofs.YtoomapkcoibmhaaGreatDoor
attribute [local go_sem] Oper.semAt_some
theorem node11b_any {S:CSt} {N:Nat} (ih:NAny S N) (n:Ck.Node) (ks:List Tree) (rest:List Ck.Node) (i d k B:Nat) (s:CS) (ms:List Nat) (w:World) (hs:(Tree.mk n ks).size≤N+1) (hT:S.R.drop i=(Tree.mk n ks).row++rest) (hA:(Tree.mk n ks).all Shp) (hms:ms≠[]) (hb:Bd s B) (hB:B+(Tree.mk n ks).size≤1099511627776) (hsc:s.scopes.length≤d) (hlp:s.loops.length≤d) (hd:d≤257) (hkk:k≤1099511627776) (hK:CK S s ms w)
  (HKL:Hid (ks.length=4)) (tl:Tree) (lt:Bytes) (htl:ks[0]? = some tl) (hlt:tl.n.text=lt) (t2:(n.kind==2)=false) (t3:(n.kind==3)=false) (t4:(n.kind==4)=false) (t5:(n.kind==5)=false) (t6:(n.kind==6)=false) (t10:(n.kind==10)=false) (t11:(n.kind==11)=true) (t12:(n.kind==12)=false) (t25:(n.kind==25)=false) (t7:(n.kind==7)=false) (t23:(n.kind==23)=false) (t13:(n.kind==13)=false) (t14:(n.kind==14)=false) :
  Calls Tryz.prog 29 #[.pointer (some ⟨S.bp,0,none⟩),.int .i64 (i:Int),.int .i64 (d:Int),.int .i64 (k:Int)] w (COut S ms w (chk S.E (Tree.mk n ks) d k s)):=by
 obtain⟨r,hr⟩:∃r,Hid (chk S.E (Tree.mk n ks) d k s=r):=⟨_,rfl⟩
 rw[hr.out]
 have HM:Hid ((need (decide (256<d)) 71 n.at' >>= fun _=>(need (decide (1000<(Tree.mk n ks).size)) 85 n.at' >>= fun _=>chkF S.E ks (d+1) 0 n.text (if ks.length==4 then(ks.headD default).n.text else[]) s))=r):=by
  have h1:=hr.out
  unfold chk at h1
  simp only[t2,t3,t4,t5,t6,t10,t11,t12,t25,t7,t23,t13,t14,Bool.or_false,Bool.false_or,Bool.or_true,Bool.true_or,Bool.or_self,Bool.false_eq_true,if_true,if_false,reduceIte]at h1
  exact h1
 clear hr
 obtain⟨hrow,hnode⟩:=row_tail hT
 have hszT:(Tree.mk n ks).size=sizes ks+1:=by simp[Tree.size]
 have hkl:ks.length≤sizes ks:=by rw[←rows_sizes];exact rowsGe ks
 have hil:(i:Int)<S.R.length:=by have:=(List.getElem?_eq_some_iff.1 hnode).1;omega
 have hx:n.text.length≤140737488351232:=(hK.ok _ (List.mem_of_getElem? hnode)).text
 obtain⟨sv,lv,hb0,_,_⟩:=hK.ex
 obtain⟨rc,rz,rset,rb⟩:=hb0.rules
 have hlim:=hK.lim;have hgl0:=hK.rat.gl
 obtain⟨rc0,hgl,rbk,n0,n1,n2,n3,n4,n5⟩:=nrd hK hnode
 obtain⟨W5,hW5⟩:∃X,X=nw S n i d ks w:=⟨_,rfl⟩
 obtain⟨hF5,k4,k5,k6,k8,k9,k10⟩:=hW5 ▸ npre S n i d ks w
 unfold nw at hW5
 have hK5:=hK.fr hF5
 obtain⟨sv5,lv5,hb5,_,_⟩:=hK5.ex
 have hk:=kids_any S.bp S.R rest i S.g S.c n ks hT hlim W5 hK5.rat _ hb5 rfl
 have hcw:=nfault_any (S:=S) (ms:=ms) (w:=w) (decide (256<(d:Int))) 71 (ks.length:Int) (w.heap.size+1+1+1) n k8 hK5.low HM (by simp;omega)
 have HK5:=Lib.hid hK5;have HT:=Lib.hid hT;have HR:=Lib.hid hrow;have HN:=Lib.hid hnode;have HA:=Lib.hid hA;have HF5:=Lib.hid hF5;have HKx:=Lib.hid hK;have HB:=Lib.hid hb
 clear hK5 hT hrow hnode hA hF5 hK hb hb5 HM hb0
 have hdi:(d:Int)≤300:=by omega
 have hki:(k:Int)≤1099511627776:=by omega
 go_enter Tryz.func29,Tryz.ntmps29
 go_wp2_with (fail)
 go_region
 go_wp2_with (fail)
 rw[←hW5]
 clear hW5 rc rz rset rb rc0 hgl0 hgl rbk n0 n1 n2 n3 n4 n5
 go_at_call 50
 refine hcw.mono ?_
 clear hcw
 rintro e1 w1 (⟨ft,rfl,hout⟩|⟨rfl,rfl,hq1,HM⟩)
 ·exact⟨rfl,hout⟩
 have hd2:d≤256:=by simpa using hq1
 obtain⟨c4,z4,s4,l4⟩:=k4.rules
 obtain⟨c5,z5,s5,l5⟩:=k5.rules
 go_wp2_with (fail)
 go_at_call 31
 refine hk.mono ?_
 clear hk c4 z4 s4 l4 c5 z5 s5 l5
 rintro e2 w2 ⟨v,rfl,hown,hf2⟩
 obtain⟨g',cur,sa,sc,rfl,hgb,hcur,hsa,hcap⟩:=kids_blk hown (k5.fr hf2 (by simp))
 obtain⟨W,hW⟩:∃X,X=w2.alloc (.cells #[.slice sa ks.length sc] 36):=⟨_,rfl⟩
 have hfW:Fr [] w2 W:=by rw[hW];exact(Fr.refl _ _).alloc _
 have hf5W:Fr [] W5 W:=hf2.trans hfW
 have nf:NF S n i d ks w.heap.size (w.heap.size+1) (w.heap.size+1+1) (w.heap.size+1+1+1) (w.heap.size+1+1+1+1) (w.heap.size+1+1+1+1+1) w2.heap.size g' sc sa cur W :=
  ⟨k4.fr hf5W (by simp),k5.fr hf5W (by simp),k6.fr hf5W (by simp),k8.fr hf5W (by simp),k9.fr hf5W (by simp),k10.fr hf5W (by simp),by rw[hW];exact Blk.new _ _ _,hgb.fr hfW (by simp),fun j q hj=>hcur j _ (by simp[ivals,hj]),fun hne=>hsa (List.length_pos_iff.2 hne),hcap⟩
 have hKW:=HK5.out.fr hf5W
 have hcW:Ct w W:=Ct.of_fr (HF5.out.trans hf5W)
 clear hfW hf5W hgb hcur hsa hown hf2 k4 k5 k6 k8 k9 k10 HK5 HF5
 go_upto_region 7 with(fail)
 rw[←hW]
 clear hW
 generalize w2.heap.size=b12 at *
 obtain⟨c8,z8,s8,l8⟩:=nf.h8.rules
 have hA2:=HA.out.1
 have hml:=hKW.sets.length
 have hbig:=big_any S hlim { n with kids:=(ks.length:Int) } (Tree.mk n ks) rest i (w.heap.size+1+1+1) (w.heap.size+1+1+1+1) w.heap.size (w.heap.size+1) W HT.out hKW.hw nf.h8 nf.h9 nf.h4 nf.h5 (by omega)
 go_wp2_with (fail)
 go_at_call 52
 refine hbig.mono ?_
 rintro e6 w6 (⟨hbg,rfl,hf6⟩|⟨hbg,rfl,hf6⟩)
 ·refine⟨rfl,.inl ⟨⟨85,n.at'⟩,?_,rfl,(hKW.fr hf6).low⟩⟩
  have h1:=HM.out
  rw[show decide (1000<(Tree.mk n ks).size)=true from decide_eq_true hbg]at h1
  exact h1.symm
 have hk3:3≤ks.length:=hA2.2.1.1 (by simpa using t11)
 obtain⟨ini,b,hks⟩:∃ini b,ks=ini++[b]:=⟨ks.dropLast,ks.getLast (by rintro rfl;simp at hk3),(List.dropLast_concat_getLast (by rintro rfl;simp at hk3)).symm⟩
 obtain⟨m,hm⟩:∃m,ini.length=m:=⟨_,rfl⟩
 have hkm:ks.length=m+1:=by rw[hks];simp[hm]
 have hszk:sizes ks=sizes ini+b.size:=by rw[hks,sizes_snoc]
 have HM3:Hid ((chks S.E ini (d+1) 0 s >>= fun s1=>(chk S.E b (d+1) m { s1 with loops:=lt::s1.loops,scopes:=[n.text]::s1.scopes } >>= fun s'=>pure { s' with loops:=s'.loops.tail,scopes:=s'.scopes.tail }))=r):=by
  have h1:=HM.out
  rw[show decide (1000<(Tree.mk n ks).size)=false from decide_eq_false hbg]at h1
  have h2:chkF S.E ks (d+1) 0 n.text (if ks.length==4 then(ks.headD default).n.text else[]) s=r:=h1
  rw[labYes HKL.out ⟨htl,hlt⟩]at h2
  rw[hks,chkF_split,Nat.zero_add,hm]at h2
  exact h2
 replace nf:=nf.ct (Ct.of_fr hf6)
 replace hKW:=hKW.fr hf6
 replace hcW:=hcW.trans (Ct.of_fr hf6)
 have hrI:S.R.drop (i+1)=rows ini++(b.row++rest):=by
  rw[HR.out,hks,rows_append];simp[rows]
 obtain⟨pb,hpb⟩:∃pb,i+1+(rows ini).length=pb:=⟨_,rfl⟩
 have hrB:S.R.drop pb=b.row++rest:=by
  rw[←hpb,←List.drop_drop,hrI];simp
 have hkp:kpos (i+1) ks=kpos (i+1) ini++[pb]:=by rw[hks,kpos_append,hpb];rfl
 have hkl2:(kpos (i+1) ini).length=m:=by rw[kpos_length,hm]
 have hcurb:cur[m]? = some (Value.int .i64 (pb:Int)):=nf.hc m pb (by rw[hkp,List.getElem?_append_right (by omega),hkl2];simp)
 have hcI:∀(j q:Nat),(kpos (i+1) ini)[j]? = some q→cur[j]? = some (Value.int .i64 (q:Int)):=fun j q hj=>nf.hc j q (by
  rw[hkp,List.getElem?_append_left (List.getElem?_eq_some_iff.1 hj).1,hj])
 have htAI:alls Shp ini:=by
  have h1:=HA.out.2
  have:∀t∈ini,t.all Shp:=fun t ht=>alls_mem h1 t (by rw[hks];simp[ht])
  exact alls_of this
 have htAb:b.all Shp:=alls_mem HA.out.2 b (by rw[hks];simp)
 obtain rfl:=nf.hsa (by rintro rfl;simp at hk3)
 have hmi:(ks.length:Int)-1=(m:Int):=by omega
 have hml3:(m:Int)≤1099511627776:=by omega
 have hcapm:(m:Int)≤sc:=by have:=nf.cap.1;omega
 have hcapm2:(sc:Int)≤9223372036854775807:=by have:=nf.cap.2;unfold maxLen at this;omega
 have hm30:((m:Int)==3)=true:=by have:=HKL.out;rw[beq_iff_eq];omega
 obtain⟨p0,r0,hp0,hT0⟩:=kid_at HR.out htl
 have hcur0:=nf.hc 0 p0 hp0
 have hp0n:S.R[p0]? = some { tl.n with kids:=(tl.ks.length:Int) }:=by
  obtain⟨a1,a2⟩:=tl
  exact(row_tail hT0).2
 have hp0l:(p0:Int)<S.R.length:=by have:=(List.getElem?_eq_some_iff.1 hp0n).1;omega
 have hklp:(0:Int)<ks.length:=by omega
 have HT0:=Lib.hid (And.intro hT0 hp0)
 clear hT0 hp0
 have HKM:=Lib.hid hkm;have HKS:=Lib.hid hks;have HK3:=Lib.hid hk3
 clear hbig HM hkm hks hk3 hf6 c8 z8 s8 l8 hkp hkl2
 have HM:=HM3
 clear HM3
 obtain⟨c12,z12,s12,l12⟩:=nf.h12.rules
 obtain⟨W7,hW7⟩:∃X,X=w6.alloc (.cells #[.int .i64 (m:Int)] 3):=⟨_,rfl⟩
 have hf7:Fr [] w6 W7:=by rw[hW7];exact(Fr.refl _ _).alloc _
 have h15:Blk W7 w6.heap.size #[.int .i64 (m:Int)] 3:=by rw[hW7];exact Blk.new _ _ _
 go_wp2_with (fail)
 rw[←hW7]
 clear hW7 c12 z12 s12 l12
 replace nf:=nf.ct (Ct.of_fr hf7)
 replace hKW:=hKW.fr hf7
 replace hcW:=hcW.trans (Ct.of_fr hf7)
 clear hf7
 generalize w6.heap.size=b15 at *
 have hea:=each_any ih ini (b.row++rest) (i+1) d B s ms W7.drew g' sc w.heap.size (w.heap.size+1+1) (some ⟨g',0,none⟩) cur (by omega) hrI htAI hms HB.out (by omega) (by omega) (by omega) (hKW.fr (Fr.refl [] _).drew) (by omega) (nf.hg.fr (Fr.refl [] _).drew List.not_mem_nil) hcI (fun _=>rfl) (nf.h4.fr (Fr.refl [] _).drew List.not_mem_nil) (nf.h6.fr (Fr.refl [] _).drew List.not_mem_nil)
 rw[hm]at hea
 have hS:(SM w.heap.size (w.heap.size+1+1) (w.heap.size+1+1+1+1+1) b12 b15 m (.slice (some ⟨g',0,none⟩) ks.length sc)) W7.drew:=⟨nf.h10.rules.1 0,nf.h12.rules.1 0,h15.rules.1 0⟩
 refine wp_region_held (S:=SM w.heap.size (w.heap.size+1+1) (w.heap.size+1+1+1+1+1) b12 b15 m (.slice (some ⟨g',0,none⟩) ks.length sc)) (by kernel_rfl) ?_
 refine tk 0 (.func (.func 51) #[] #[.pointer (some ⟨w.heap.size,0,none⟩),.pointer (some ⟨w.heap.size+1+1,0,none⟩)]) rfl hS (fun X hX=>?_) ?_
 ·obtain⟨hX1,hX2,hX3⟩:=hX;go_simp
 simp only[Act.put,acts]
 refine tk 1 (.slice (some ⟨g',0,none⟩) ks.length sc) rfl hS (fun X hX=>?_) ?_
 ·obtain⟨hX1,hX2,hX3⟩:=hX;go_simp
 simp only[Act.put,acts]
 refine tk 2 (.int .i64 (m:Int)) rfl hS (fun X hX=>?_) ?_
 ·obtain⟨hX1,hX2,hX3⟩:=hX;go_simp
 simp only[Act.put,acts]
 refine tk 3 (.slice (some ⟨g',0,none⟩) m sc) rfl hS (fun X hX=>?_) ?_
 ·go_simp
 simp only[Act.put,acts]
 refine wpAnyH_all (rs:=[4]) (by kernel_rfl) (by simp) ?_
 intro i2 hi2
 obtain rfl:i2=4:=by simpa using hi2
 refine wpOp_step rfl (fun K0 hK0=>?_)
 rw[if_pos (by kernel_rfl)]
 go_simp
 refine hea.mono ?_
 rintro e7 wv ho
 rcases ho.bindr HM (hcW.trans (Ct.of_fr (Fr.refl [] _).drew)) with⟨ft,rfl,hout⟩|⟨s1,rfl,hK2,hC2,hok0,HM2⟩
 ·exact⟨rfl,hout⟩
 have hC3:Ct W7 wv:=(Ct.of_fr (Fr.refl [] _).drew).trans hC2
 replace nf:=nf.ct hC3
 have h15a:=hC3.kept _ _ _ (by decide) (by decide) (by decide) h15
 refine hK0 _ _ ⟨⟨nf.h10.rules.1 0,nf.h12.rules.1 0,h15a.rules.1 0⟩,wpAnyH_done (by kernel_rfl) ?_ _⟩
 replace hcW:=hcW.trans hC3
 clear hKW HM h15
 have hKW:=hK2
 have HM:=HM2
 have h15:=h15a
 clear hK2 HM2 hS hea ho hC3 hC2 h15a
 have hbd1:=chks_bd S.E ini (d+1) 0 B s s1 (all_imps (fun _ _ h=>h.1) ini htAI) HB.out hok0
 have hs1l:s1.scopes.length≤d:=by rw[←hKW.sets.length,hml];exact hsc
 have hl1l:s1.loops.length≤d:=by rw[hbd1.2];exact hlp
 have HBD:=Lib.hid hbd1
 have HML:=Lib.hid hml
 clear hbd1 hml
 obtain⟨c15,z15,s15,l15⟩:=h15.rules
 obtain⟨c4,z4,s4,l4⟩:=nf.h4.rules
 obtain⟨c12,z12,s12,l12⟩:=nf.h12.rules
 obtain⟨sv0,lv0,hbq,_,_⟩:=hKW.ex
 obtain⟨cb,zb,sb,lb⟩:=hbq.rules
 have hgc:wv.cell? ⟨g',0,none⟩=some (.int .i64 (p0:Int)):=(nf.hg.rules.1 0).trans hcur0
 have htc:wv.cell? ⟨S.g,p0*6+3,none⟩=some (.string ⟨lt.toArray⟩):=by rw[←hlt];exact hKW.rat.cells p0 _ hp0n 3 (by omega)
 go_wp2_with (go_quiet (fail))
 obtain⟨wz,hwz⟩:∃X,X=wv.drewN nq:=⟨_,rfl⟩
 have hfz:Fr [] wv wz:=by rw[hwz];exact(Fr.refl [] _).drewN nq
 rw[←hwz]
 clear hwz c15 z15 s15 l15 c4 z4 s4 l4 c12 z12 s12 l12 cb zb sb lb hgc htc
 replace hKW:=hKW.fr hfz
 replace nf:=nf.ct (Ct.of_fr hfz)
 replace hcW:=hcW.trans (Ct.of_fr hfz)
 replace h15:=h15.fr hfz List.not_mem_nil
 clear hfz
 obtain⟨c15,z15,s15,l15⟩:=h15.rules
 obtain⟨sv,lv,hbk0,hsr0,hlr0⟩:=hKW.ex
 have hbk:=hbk0.fr (Fr.refl [] wz).drew (by simp)
 have hsr:=ownsRow_frN hsr0 (Fr.refl [] wz).drew
 have hlr:=ownsRow_frN hlr0 (Fr.refl [] wz).drew
 have hrow9:=row_blk hlr
 have hKd:=hKW.fr (Fr.refl [] wz).drew
 obtain⟨i0,hi0,hz0,hz1,hz2⟩:=info_parts Tryz.infoStr
 obtain⟨cb,zb,sb,lb9⟩:=hbk0.rules
 obtain⟨c4,z4,s4,l4⟩:=nf.h4.rules
 obtain⟨c8,z8,s8,l8⟩:=nf.h8.rules
 have hbb9:=hKW.bw
 have HB1:Hid (s1.loops.length+1≤maxLen):=by show _≤_;simp[maxLen];omega
 have HB2:Hid ((s1.loops.length+1)*16≤140737488355328):=by show _≤_;omega
 have HB3:Hid (S.base≤(wz.drew.alloc (.cells #[.string ⟨lt.toArray⟩] 9)).heap.size):=by show _≤_;simp;omega
 have hn4:∀k,lv.ownBlock=some k→∀c T,T≠9→Blk wz.drew k c T→False:=fun k e c T hT hB=>by
  obtain⟨_,c2,hB2⟩:=hrow9 k e
  have:=hB2.symm.trans hB
  simp at this
  exact hT this.2.symm
 have hbkN:∀k,lv.ownBlock=some k→k≠S.bp:=fun k e e2=>by subst e2;exact hn4 _ e _ _ (by decide) hbk
 have h4d:=nf.h4.fr (Fr.refl [] wz).drew (by simp)
 have h8d:=nf.h8.fr (Fr.refl [] wz).drew (by simp)
 have h9d:=nf.h9.fr (Fr.refl [] wz).drew (by simp)
 have h4N:∀k,lv.ownBlock=some k→k≠w.heap.size:=fun k e e2=>by subst e2;exact hn4 _ e _ _ (by decide) h4d
 go_wp2_with (fail)
 go_cut [] (fun X=>Hid (CK S { s1 with loops:=lt::s1.loops } ms X∧Ct wz X))
 case first =>
  skip
  have hS:(SR S w.heap.size (w.heap.size+1+1+1) (w.heap.size+1+1+1+1) n.text) wz.drew:=nf.sr.drew
  refine wp_region_held (S:=SR S w.heap.size (w.heap.size+1+1+1) (w.heap.size+1+1+1+1) n.text) (by kernel_rfl) ?_
  refine tk 0 (.pointer (some ⟨S.bp,0,none⟩)) rfl hS (fun X hX=>?_) ?_
  ·obtain⟨hX1,hX2,hX3⟩:=hX;go_simp
  simp only[Act.put,acts]
  refine tk 1 (.pointer (some ⟨S.bp,0,none⟩)) rfl hS (fun X hX=>?_) ?_
  ·obtain⟨hX1,hX2,hX3⟩:=hX;go_simp
  simp only[Act.put,acts]
  refine tk 2 (.pointer (some ⟨S.bp,0,none⟩)) rfl hS (fun X hX=>?_) ?_
  ·go_simp
  simp only[Act.put,acts]
  refine tk 3 (.pointer (some ⟨S.bp,6,none⟩)) rfl hS (fun X hX=>?_) ?_
  ·go_simp
  simp only[Act.put,acts]
  refine tk 5 (.string ⟨lt.toArray⟩) rfl hS (fun X hX=>?_) ?_
  ·go_simp
  simp only[Act.put,acts]
  refine wpAnyH_all (rs:=[4,6]) (by kernel_rfl) (by simp) ?_
  intro i2 hi2
  obtain rfl|rfl:i2=4∨i2=6:=by simpa using hi2
  ·refine wpOp_step rfl (fun K0 hK0=>?_)
   rw[if_pos (by kernel_rfl)]
   go_simp
   refine hK0 _ _ ⟨hS,?_⟩
   refine wpAnyH_all (rs:=[6]) (by kernel_rfl) (by simp) ?_
   intro i2 hi2
   obtain rfl:i2=6:=by simpa using hi2
   refine wpOp_step rfl (fun K0 hK0=>?_)
   rw[if_pos (by kernel_rfl)]
   go_simp
   refine hK0 _ _ ⟨hS.fr ((Fr.refl [] _).alloc _),?_⟩
   refine wpAnyH_all (rs:=[7]) (by kernel_rfl) (by simp) ?_
   intro i2 hi2
   obtain rfl:i2=7:=by simpa using hi2
   refine wpOp_step rfl (fun K0 hK0=>?_)
   rw[if_pos (by kernel_rfl)]
   refine wp_append_lies _ (.tmp 221) (.tmp 223) 67 rfl S.base 9 i0 (.string ⟨#[]⟩) 1 16 Tryz.underlying67 hi0 hz0 hz1 hz2 rfl (by decide) lv s1.loops.length (svals s1.loops.reverse) rfl (hlr.alloc _) ⟨wz.heap.size,0,none⟩ 1 1 [.string ⟨lt.toArray⟩] rfl rfl (cell_one_new _ _ _) (by simp[Value.oneCell']) Nat.one_pos HB1.out HB2.out HB3.out _ rfl ?_
   intro g2 cap2 w8 hown8 hg8 hat8 hlt8
   obtain⟨qc,qz,qset,qb⟩:=((hbk.alloc _).grown hg8 (fun e=>hbkN _ e rfl)).rules
   have hS8:(SR S w.heap.size (w.heap.size+1+1+1) (w.heap.size+1+1+1+1) n.text) w8:=⟨((h9d.alloc _).grown hg8 (fun e=>hn4 _ e _ _ (by decide) h9d)).rules.1 0,((h4d.alloc _).grown hg8 (fun e=>hn4 _ e _ _ (by decide) h4d)).rules.1 0,((h8d.alloc _).grown hg8 (fun e=>hn4 _ e _ _ (by decide) h8d)).rules.1 3⟩
   obtain⟨q1,q2⟩:=CK.pushLoop hKd hbk hsr hlr _ hown8 hg8
   have hCq:=(Ct.of_fr (Fr.refl [] wz).drew).trans q2
   refine hK0 _ _ ⟨hS8,?_⟩
   clear hS
   have hS:=hS8
   refine tk 8 (.pointer (some ⟨S.bp,0,none⟩)) rfl hS (fun X hX=>?_) ?_
   ·go_simp
   simp only[Act.put,acts]
   refine tk 9 (.pointer (some ⟨S.bp,6,none⟩)) rfl hS (fun X hX=>?_) ?_
   ·go_simp
   simp only[Act.put,acts]
   refine wpAnyH_all (rs:=[10]) (by kernel_rfl) (by simp) ?_
   intro i2 hi2
   obtain rfl:i2=10:=by simpa using hi2
   refine wpOp_step rfl (fun K0 hK0=>?_)
   rw[if_pos (by kernel_rfl)]
   go_simp
   refine hK0 _ _ ⟨(nf.ct hCq).sr,wpAnyH_done (by kernel_rfl) ?_ _⟩
   go_wp2
   go_meet
   case rel=>exact⟨q1,hCq⟩
  ·refine wpOp_step rfl (fun K0 hK0=>?_)
   rw[if_pos (by kernel_rfl)]
   go_simp
   refine hK0 _ _ ⟨hS.fr ((Fr.refl [] _).alloc _),?_⟩
   refine wpAnyH_all (rs:=[4]) (by kernel_rfl) (by simp) ?_
   intro i2 hi2
   obtain rfl:i2=4:=by simpa using hi2
   refine wpOp_step rfl (fun K0 hK0=>?_)
   rw[if_pos (by kernel_rfl)]
   go_simp
   refine hK0 _ _ ⟨hS.fr ((Fr.refl [] _).alloc _),?_⟩
   refine wpAnyH_all (rs:=[7]) (by kernel_rfl) (by simp) ?_
   intro i2 hi2
   obtain rfl:i2=7:=by simpa using hi2
   refine wpOp_step rfl (fun K0 hK0=>?_)
   rw[if_pos (by kernel_rfl)]
   refine wp_append_lies _ (.tmp 221) (.tmp 223) 67 rfl S.base 9 i0 (.string ⟨#[]⟩) 1 16 Tryz.underlying67 hi0 hz0 hz1 hz2 rfl (by decide) lv s1.loops.length (svals s1.loops.reverse) rfl (hlr.alloc _) ⟨wz.heap.size,0,none⟩ 1 1 [.string ⟨lt.toArray⟩] rfl rfl (cell_one_new _ _ _) (by simp[Value.oneCell']) Nat.one_pos HB1.out HB2.out HB3.out _ rfl ?_
   intro g2 cap2 w8 hown8 hg8 hat8 hlt8
   obtain⟨qc,qz,qset,qb⟩:=((hbk.alloc _).grown hg8 (fun e=>hbkN _ e rfl)).rules
   have hS8:(SR S w.heap.size (w.heap.size+1+1+1) (w.heap.size+1+1+1+1) n.text) w8:=⟨((h9d.alloc _).grown hg8 (fun e=>hn4 _ e _ _ (by decide) h9d)).rules.1 0,((h4d.alloc _).grown hg8 (fun e=>hn4 _ e _ _ (by decide) h4d)).rules.1 0,((h8d.alloc _).grown hg8 (fun e=>hn4 _ e _ _ (by decide) h8d)).rules.1 3⟩
   obtain⟨q1,q2⟩:=CK.pushLoop hKd hbk hsr hlr _ hown8 hg8
   have hCq:=(Ct.of_fr (Fr.refl [] wz).drew).trans q2
   refine hK0 _ _ ⟨hS8,?_⟩
   clear hS
   have hS:=hS8
   refine tk 8 (.pointer (some ⟨S.bp,0,none⟩)) rfl hS (fun X hX=>?_) ?_
   ·go_simp
   simp only[Act.put,acts]
   refine tk 9 (.pointer (some ⟨S.bp,6,none⟩)) rfl hS (fun X hX=>?_) ?_
   ·go_simp
   simp only[Act.put,acts]
   refine wpAnyH_all (rs:=[10]) (by kernel_rfl) (by simp) ?_
   intro i2 hi2
   obtain rfl:i2=10:=by simpa using hi2
   refine wpOp_step rfl (fun K0 hK0=>?_)
   rw[if_pos (by kernel_rfl)]
   go_simp
   refine hK0 _ _ ⟨(nf.ct hCq).sr,wpAnyH_done (by kernel_rfl) ?_ _⟩
   go_wp2
   go_meet
   case rel=>exact⟨q1,hCq⟩
 case' rest=>skip
 obtain⟨hK9,hC9⟩:=hcut.out
 clear hcut
 replace nf:=nf.ct hC9
 replace hcW:=hcW.trans hC9
 have h15a:=hC9.kept _ _ _ (by decide) (by decide) (by decide) h15
 clear hKW hC9 h15
 have hKW:=hK9
 have h15:=h15a
 clear hK9 h15a
 obtain⟨c4,z4,s4,l4⟩:=nf.h4.rules
 obtain⟨c8,z8,s8,l8⟩:=nf.h8.rules
 have hmm:=@run_makeMap Tryz.prog
 have hB1:Bd { s1 with loops:=lt::s1.loops,scopes:=[n.text]::s1.scopes } (B+sizes ini+1):=((HBD.out.1.mono (Nat.le_succ _)).loops (lt::s1.loops)).push [n.text] (by simp)
 obtain⟨w10,hrun10,hset,hg10⟩:=fresh_insert wc n.text (by simp[maxLen];omega)
 go_wp2_with (fail)
 have hf10:Fr [] wc w10:=((Fr.refl [] wc).alloc _).grown hg10 (fun k e=>.inr (by injection e with e;omega))
 have nf10:=nf.ct (Ct.of_fr hf10)
 have h15b:=h15.fr hf10 List.not_mem_nil
 have hin:=inner6_any #[.pointer (some ⟨w.heap.size,0,none⟩),.pointer (some ⟨b12,0,none⟩),.pointer (some ⟨b15,0,none⟩),.pointer (some ⟨w.heap.size+1+1,0,none⟩)] wc.heap.size [n.text] (chk S.E b (d+1) m { s1 with loops:=lt::s1.loops,scopes:=[n.text]::s1.scopes }) (hKW.fr hf10) hset (fresh_map hKW) hKW.bw (by show s1.scopes.length≤1000;omega) (fun w1 k1 q1=>body6_any S (wc.heap.size::ms) _ g' ks.length sc m d pb cur w.heap.size b12 b15 (w.heap.size+1+1) w1 (nf10.ct q1).h4 (nf10.ct q1).h12 (q1.kept _ _ _ (by decide) (by decide) (by decide) h15b) (nf10.ct q1).h6 (nf10.ct q1).hg (by have:=HKM.out;omega) (by omega) (by omega) hcurb (fun q=>ih b rest pb (d+1) m (B+sizes ini+1) _ (wc.heap.size::ms) (w1.drewN q) (by omega) hrB htAb (by simp) hB1 (by omega) (by simp;omega) (by simp;omega) (by omega) (by omega) (k1.fr ((Fr.refl [] _).drewN q))))
 go_at_call 56
 refine hin.mono ?_
 have HM2:=Lib.hid ((popF _).symm.trans HM.out)
 clear hin hmm c4 z4 s4 l4 c8 z8 s8 l8 HM
 rintro e11 w11 ho
 rcases ho.bindr HM2 (hcW.trans (Ct.of_fr hf10)) with⟨ft,rfl,hout⟩|⟨s3,rfl,hK2,hC2,hok3,HM⟩
 ·exact⟨rfl,hout⟩
 obtain⟨s4,hok4,hs43⟩:=bok hok3
 have hbd4:=chk_bd S.E b (d+1) m (B+sizes ini+1) _ s4 (all_imp (fun _ _ h=>h.1) b htAb) hB1 hok4
 have hlp3:s3.loops=lt::s1.loops:=by cases hs43;exact hbd4.2
 replace nf:=nf10.ct hC2
 replace hcW:=(hcW.trans (Ct.of_fr hf10)).trans hC2
 clear hKW nf10 hset hrun10 hg10 hf10 hok3 hok4 hs43 hbd4 ho hC2 h15 h15b HM2
 have hKW:=hK2
 clear hK2
 obtain⟨sv3,lv3,b1,b2,b3⟩:=hKW.ex
 obtain⟨mm,hmm⟩:∃mm,s3.loops.length=mm+1:=⟨s1.loops.length,by rw[hlp3];rfl⟩
 have hm3':mm≤300:=by rw[hlp3]at hmm;simp at hmm;omega
 rw[hmm]at b3
 obtain⟨g3,cap3,rfl⟩:=ownsRow_succ b3
 have hnm:(mm:Int)≤300:=by omega
 have hcap3:mm+1≤cap3:=(ownsRow_cap b3).1
 have hcap4:(cap3:Int)≤9223372036854775807:=by have:=(ownsRow_cap b3).2;unfold maxLen at this;omega
 obtain⟨yc,yz,yset,yb⟩:=b1.rules
 obtain⟨c4,z4,s4',l4⟩:=nf.h4.rules
 have B1:=Lib.hid b1;have B2:=Lib.hid b2;have B3:=Lib.hid b3;have H9:=Lib.hid hKW;have HL3:=Lib.hid hlp3;have HM9:=Lib.hid HM;have HC9:=Lib.hid hcW
 clear b1 b2 b3 hKW hlp3 HM hcW hmm hB1 nf hcurb hcI htAI htAb hrI hrB hok0
 go_wp2
 go_region
 all_goals go_wp2
 all_goals go_end0
 all_goals
  obtain⟨hq,cq⟩:=H9.out.popLoop HL3.out B1.out B2.out B3.out
  exact .inr ⟨_,HM9.out.out.symm,rfl,hq.fr (Fr.refl _ _).drew,(HC9.out.trans cq).trans (Ct.of_fr (Fr.refl _ _).drew)⟩
def TopT (t:Tree):Prop:=(t.n.kind=2∨t.n.kind=3)∧alls Shp t.ks∧(t.n.kind=3→t.ks≠[])∧∀m∈t.row,KeyOk m
abbrev TAny (S:CSt) (N:Nat):Prop:=∀(T:Tree) (rest:List Ck.Node) (i d k B:Nat) (s:CS) (ms:List Nat) (w:World),T.size≤N→S.R.drop i=T.row++rest→TopT T→Bd s B→B+T.size≤1099511627776→s.scopes=[]→s.loops=[]→d≤257→k≤1099511627776→CK S s ms w →
 Calls Tryz.prog 29 #[.pointer (some ⟨S.bp,0,none⟩),.int .i64 i,.int .i64 d,.int .i64 k] w (COut S ms w (chk S.E T d k s))
theorem top_bd (E:Env) (t:Tree) (d k B:Nat) (s s':CS) (hT:TopT t) (hb:Bd s B) (h:chk E t d k s=.ok s'):Bd s' (B+t.size)∧s'.loops=[]:=by
 obtain⟨n,ks⟩:=t
 obtain⟨hk,hA,_,_⟩:=hT
 have hA:alls Shp ks:=hA
 have hk2:(n.kind==2||n.kind==3)=true:=by
  rcases hk with hk|hk
  ·have hk:n.kind=2:=hk
   simp[hk]
  ·have hk:n.kind=3:=hk
   simp[hk]
 unfold chk at h
 obtain⟨_,_,h⟩:=bok h
 rw[if_pos hk2]at h
 obtain⟨_,_,h⟩:=bok h
 obtain⟨s1,h1,h⟩:=bok h
 have hb1:Bd ⟨[]::s.scopes,[],n.text::s.ahead⟩ (B+1):=⟨fun l hl=>by
  rcases List.mem_cons.1 hl with rfl|hl
  ·simp
  ·exact Nat.le_succ_of_le (hb.sc l hl),by have:=hb.ah;simp;omega⟩
 obtain⟨g1,g2⟩:=chks_bd E ks (d+1) 0 (B+1) _ s1 (all_imps (fun _ _ h=>h.1) ks hA) hb1 h1
 have hz:(Tree.mk n ks).size=sizes ks+1:=by simp[Tree.size]
 have fin:s'={ s1 with scopes:=s1.scopes.tail }→Bd s' (B+(Tree.mk n ks).size)∧s'.loops=[]:=fun e=>by
  subst e
  exact⟨(g1.pop).mono (by omega),g2⟩
 split at h
 ·obtain⟨_,_,h⟩:=bok h
  obtain⟨_,_,h⟩:=bok h
  cases h;exact fin rfl
 ·cases h;exact fin rfl
section
variable {S:CSt} {N:Nat}
theorem eachT_any (ih:TAny S N) (ks:List Tree) (rest:List Ck.Node) (p d B:Nat) (s:CS) (ms:List Nat) (w:World) (g' sc b4 b6:Nat) (sa:Option Addr) (cur:Array Value)
  (hs:sizes ks≤N) (hT:S.R.drop p=rows ks++rest) (hA:∀t∈ks,TopT t) (hms:s.scopes=[]) (hb:Bd s B) (h1:s.scopes.length≤d+1) (h2:s.loops=[]) (hd:d+1≤257) (hK:CK S s ms w) (hpl:B+sizes ks≤1099511627776)
  (hg:Blk w g' cur 3) (hc:∀(j q:Nat),(kpos p ks)[j]? = some q→cur[j]? = some (Value.int .i64 (q:Int))) (hsa:ks≠[]→sa=some ⟨g',0,none⟩)
  (h4:Blk w b4 #[.pointer (some ⟨S.bp,0,none⟩)] 45) (h6:Blk w b6 #[.int .i64 (d:Int)] 3) :
  Calls Tryz.prog 51 #[.slice sa ks.length sc,.pointer (some ⟨b4,0,none⟩),.pointer (some ⟨b6,0,none⟩)] w (COut S ms w (chks S.E ks (d+1) 0 s)):=by
 obtain⟨r,hr⟩:∃r,Hid (chks S.E ks (d+1) 0 s=r):=⟨_,rfl⟩
 rw[hr.out]
 have hl:(ks.length:Int)≤1099511627776:=by
  have:=rowsGe ks
  have h4:=rows_sizes ks
  omega
 have hml:=hK.sets.length
 obtain⟨kc,kz,kset,kb⟩:=h4.rules
 go_enter Tryz.func51,Tryz.ntmps51
 have HC:=Lib.hid hc;have HA:=Lib.hid hA;have HT:=Lib.hid hT;have HSA:=Lib.hid hsa
 have hK0:Hid (∃s',CK S s' ms w∧Ct w w∧Bd s' (B+sizes (ks.take 0))∧s'.scopes.length=s.scopes.length∧s'.loops=[]∧chks S.E (ks.drop 0) (d+1) 0 s'=r):=⟨s,hK,Ct.refl _,by simpa[sizes]using hb,rfl,h2,by simpa using hr.out⟩
 clear hK hb hc hA hT hsa
 go_wp2
 go_loopw [4,5,8] (fun _x _y j wr=>∃q:Nat,j=.int .i64 q∧q≤ks.length∧Hid (∃s',CK S s' ms wr∧Ct w wr∧Bd s' (B+sizes (ks.take q))∧s'.scopes.length=s.scopes.length∧s'.loops=[]∧chks S.E (ks.drop q) (d+1) q s'=r)) (fun _ _ j _=>ks.length-(intOf j).toNat)
 case atStart=>exact⟨0,rfl,Nat.zero_le _,hK0⟩
 case round =>
  obtain⟨q,rfl,hq1,hq⟩:=hrel
  obtain⟨s',k1,k2,k3,k4,k5,k6⟩:=hq.out
  clear hq
  by_cases hlt:q<ks.length
  ·obtain⟨t,ht⟩:∃t,ks[q]? = some t:=⟨_,List.getElem?_eq_getElem hlt⟩
   have hsplit:ks.drop q=t::ks.drop (q+1):=by
    rw[List.drop_eq_getElem_cons hlt]
    rw[List.getElem?_eq_getElem hlt]at ht
    rw[Option.some.inj ht]
   obtain⟨p',rest',hp,hTp⟩:=kid_at HT.out ht
   obtain rfl:=HSA.out (by rintro rfl;simp at hlt)
   have hgr:=k2.kept g' cur _ (by decide) (by decide) (by decide) hg
   have hcell:wr.cell? ⟨g',q,none⟩=some (.int .i64 (p':Int)):=(hgr.rules.1 q).trans (HC.out q p' hp)
   have h4r:=k2.kept b4 _ _ (by decide) (by decide) (by decide) h4
   have h6r:=k2.kept b6 _ _ (by decide) (by decide) (by decide) h6
   obtain⟨xc,xz,xset,xb⟩:=h4r.rules
   obtain⟨yc,yz,yset,yb⟩:=h6r.rules
   rw[hsplit]at k6
   unfold chks at k6
   have hst:=sizes_take ht
   have hsa:=sizes_at ht
   have hle:=sizes_take_le ks (q+1)
   have htA:TopT t:=HA.out t (List.mem_of_getElem? ht)
   have hcall:=ih t rest' p' (d+1) q (B+sizes (ks.take q)) s' ms wr (by omega) hTp htA k3 (by omega) (List.eq_nil_of_length_eq_zero (by rw[k4,hms];rfl)) k5 hd (by omega) k1
   have HKK:=Lib.hid (And.intro k3 (And.intro k4 (And.intro k5 (And.intro k6 k2))));have HA2:=Lib.hid htA;have HST:=Lib.hid hst;have HTt:=Lib.hid ht
   clear k1 k3 k4 k5 k6 hsplit hp hTp htA hst
   go_wp2_with (fail)
   go_at_call 29
   refine hcall.mono ?_
   rintro e w5 (⟨f,hf,rfl,hlow⟩|⟨s2,hf,rfl,K2,C2⟩)
   ·exact⟨rfl,.inl ⟨f,by rw[←HKK.out.2.2.2.1,hf];rfl,rfl,hlow⟩⟩
   ·go_wp2
    go_roundw
    case rel =>
     refine⟨q+1,by go_num,by omega,s2,K2,HKK.out.2.2.2.2.trans C2,?_,?_,?_,?_⟩
     ·have:=(top_bd S.E t (d+1) q _ s' s2 HA2.out HKK.out.1 hf).1
      rw[HST.out,←Nat.add_assoc];exact this
     ·rw[←K2.sets.length];exact hml
     ·exact(top_bd S.E t (d+1) q _ s' s2 HA2.out HKK.out.1 hf).2
     ·have h9:=HKK.out.2.2.2.1
      rw[hf]at h9;exact h9
    case measure=>simp[intOf];omega
  ·obtain rfl:q=ks.length:=by omega
   rw[List.drop_length]at k6
   go_wp2
   go_end0
   exact .inr ⟨s',k6.symm,rfl,k1,k2⟩
end
end Go.Proofs.YtoomapkcoibmhaaGreatDoor
end
section
open Go Go.Proofs Go.RowKit Go.Shelf Go.Maps Ck
namespace Go.Proofs.YtoomapkcoibmhaaGreatDoor
theorem kf {x a b:Int} (h:(x==a)=true) (hab:(a==b)=false):(x==b)=false:=by
 rw[eq_of_beq h];exact hab
theorem node_all (S:CSt):∀N,NAny S N
 | 0=>by
  intro T rest i d k B s ms w hs
  obtain⟨n,ks⟩:=T
  simp[Tree.size]at hs
 | N+1=>by
  have ih:=node_all S N
  intro T rest i d k B s ms w hs hT hA hms hb hB hsc hlp hd hkk hK
  obtain⟨n,ks⟩:=T
  have hsh:Shp n ks:=hA.1
  have e2:(n.kind==2)=false:=(Bool.or_eq_false_iff.1 hsh.1).1
  have e3:(n.kind==3)=false:=(Bool.or_eq_false_iff.1 hsh.1).2
  cases h:(n.kind==4) with
  | true=>exact node4_any ih n ks rest i d k B s ms w hs hT hA hms hb hB hsc hlp hd hkk hK  (kf h rfl) (kf h rfl) (h) (kf h rfl) (kf h rfl) (kf h rfl) (kf h rfl) (kf h rfl) (kf h rfl) (kf h rfl) (kf h rfl) (kf h rfl) (kf h rfl)
  | false =>
  have e4:=h
  clear h
  cases h:(n.kind==5) with
  | true=>exact node5_any ih n ks rest i d k B s ms w hs hT hA hms hb hB hsc hlp hd hkk hK  (kf h rfl) (kf h rfl) (kf h rfl) (h) (kf h rfl) (kf h rfl) (kf h rfl) (kf h rfl) (kf h rfl) (kf h rfl) (kf h rfl) (kf h rfl) (kf h rfl)
  | false =>
  have e5:=h
  clear h
  cases h:(n.kind==6) with
  | true=>exact node6_any ih n ks rest i d k B s ms w hs hT hA hms hb hB hsc hlp hd hkk hK  (kf h rfl) (kf h rfl) (kf h rfl) (kf h rfl) (h) (kf h rfl) (kf h rfl) (kf h rfl) (kf h rfl) (kf h rfl) (kf h rfl) (kf h rfl) (kf h rfl)
  | false =>
  have e6:=h
  clear h
  cases h:(n.kind==12) with
  | true=>exact node12_any ih n ks rest i d k B s ms w hs hT hA hms hb hB hsc hlp hd hkk hK  (kf h rfl) (kf h rfl) (kf h rfl) (kf h rfl) (kf h rfl) (kf h rfl) (kf h rfl) (h) (kf h rfl) (kf h rfl) (kf h rfl) (kf h rfl) (kf h rfl)
  | false =>
  have e12:=h
  clear h
  cases h:(n.kind==25) with
  | true=>exact node25_any ih n ks rest i d k B s ms w hs hT hA hms hb hB hsc hlp hd hkk hK  (kf h rfl) (kf h rfl) (kf h rfl) (kf h rfl) (kf h rfl) (kf h rfl) (kf h rfl) (kf h rfl) (h) (kf h rfl) (kf h rfl) (kf h rfl) (kf h rfl)
  | false =>
  have e25:=h
  clear h
  cases h:(n.kind==7) with
  | true=>exact node7_any ih n ks rest i d k B s ms w hs hT hA hms hb hB hsc hlp hd hkk hK  (kf h rfl) (kf h rfl) (kf h rfl) (kf h rfl) (kf h rfl) (kf h rfl) (kf h rfl) (kf h rfl) (kf h rfl) (h) (kf h rfl) (kf h rfl) (kf h rfl)
  | false =>
  have e7:=h
  clear h
  cases h:(n.kind==23) with
  | true=>exact node23_any ih n ks rest i d k B s ms w hs hT hA hms hb hB hsc hlp hd hkk hK  (kf h rfl) (kf h rfl) (kf h rfl) (kf h rfl) (kf h rfl) (kf h rfl) (kf h rfl) (kf h rfl) (kf h rfl) (kf h rfl) (h) (kf h rfl) (kf h rfl)
  | false =>
  have e23:=h
  clear h
  cases h:(n.kind==13) with
  | true=>exact node13_any ih n ks rest i d k B s ms w hs hT hA hms hb hB hsc hlp hd hkk hK (.inl (by simpa using h))
  | false =>
  have e13:=h
  clear h
  cases h:(n.kind==14) with
  | true=>exact node13_any ih n ks rest i d k B s ms w hs hT hA hms hb hB hsc hlp hd hkk hK (.inr (by simpa using h))
  | false =>
  have e14:=h
  clear h
  cases h:(n.kind==10) with
  | true =>
   by_cases hx:n.text=[]
   ·exact node10_any ih n ks rest i d k B s ms w hs hT hA hms hb hB hsc hlp hd hkk hK (Lib.hid hx) (kf h rfl) (kf h rfl) (kf h rfl) (kf h rfl) (kf h rfl) (h) (kf h rfl) (kf h rfl) (kf h rfl) (kf h rfl) (kf h rfl) (kf h rfl) (kf h rfl)
   ·exact node10b_any ih n ks rest i d k B s ms w hs hT hA hms hb hB hsc hlp hd hkk hK hx (kf h rfl) (kf h rfl) (kf h rfl) (kf h rfl) (kf h rfl) (h) (kf h rfl) (kf h rfl) (kf h rfl) (kf h rfl) (kf h rfl) (kf h rfl) (kf h rfl)
  | false =>
  have e10:=h
  clear h
  cases h:(n.kind==11) with
  | true =>
   by_cases hx:ks.length=4
   ·obtain⟨tl,lt,htl,hlt⟩:∃tl lt,ks[0]? = some tl∧tl.n.text=lt:=⟨ks[0]'(by omega),(ks[0]'(by omega)).n.text,List.getElem?_eq_getElem _,rfl⟩
    exact node11b_any ih n ks rest i d k B s ms w hs hT hA hms hb hB hsc hlp hd hkk hK (Lib.hid hx) tl lt htl hlt (kf h rfl) (kf h rfl) (kf h rfl) (kf h rfl) (kf h rfl) (kf h rfl) (h) (kf h rfl) (kf h rfl) (kf h rfl) (kf h rfl) (kf h rfl) (kf h rfl)
   ·exact node11a_any ih n ks rest i d k B s ms w hs hT hA hms hb hB hsc hlp hd hkk hK (Lib.hid hx) (kf h rfl) (kf h rfl) (kf h rfl) (kf h rfl) (kf h rfl) (kf h rfl) (h) (kf h rfl) (kf h rfl) (kf h rfl) (kf h rfl) (kf h rfl) (kf h rfl)
  | false =>
  have e11:=h
  clear h
  exact nodeS_any ih n ks rest i d k B s ms w hs hT hA hms hb hB hsc hlp hd hkk hK e2 e3 e4 e5 e6 e10 e11 e12 e25 e7 e23 e13 e14
theorem top_all (S:CSt) (N:Nat) (hcapS:S.R.length≤S.c∧S.c≤maxLen):TAny S N:=by
 intro T rest i d k B s ms w hs hT hTop hb hB hsc hlp hd hkk hK
 obtain⟨n,ks⟩:=T
 obtain⟨hk,hA,hreg,hkey⟩:=hTop
 have ih:=node_all S ((Tree.mk n ks).size)
 have hk:n.kind=2∨n.kind=3:=hk
 rcases hk with hk|hk
 ·have h:(n.kind==2)=true:=beq_iff_eq.2 hk
  exact nodeF2_any ih n ks rest i d k B s ms w (Nat.le_succ _) hT hA hcapS hb hB (by simp[hsc]) (by simp[hlp]) hd hkk hreg hK (h) (kf h rfl) (kf h rfl) (kf h rfl) (kf h rfl) (kf h rfl) (kf h rfl) (kf h rfl) (kf h rfl) (kf h rfl) (kf h rfl) (kf h rfl) (kf h rfl)
 ·have h:(n.kind==3)=true:=beq_iff_eq.2 hk
  exact nodeF3_any ih n ks rest i d k B s ms w (Nat.le_succ _) hT hA hcapS hb hB (by simp[hsc]) (by simp[hlp]) hd hkk hreg hkey hK (kf h rfl) (h) (kf h rfl) (kf h rfl) (kf h rfl) (kf h rfl) (kf h rfl) (kf h rfl) (kf h rfl) (kf h rfl) (kf h rfl) (kf h rfl) (kf h rfl)
end Go.Proofs.YtoomapkcoibmhaaGreatDoor
end
section
open Go Go.Proofs Go.RowKit Go.Shelf Go.Maps Ck
namespace Go.Proofs.YtoomapkcoibmhaaGreatDoor
attribute [local go_sem] Oper.semAt_some
theorem nodeP_any {S:CSt} {N:Nat} (ih:TAny S N) (n:Ck.Node) (ks:List Tree) (rest:List Ck.Node) (i d k B:Nat) (s:CS) (ms:List Nat) (w:World) (hs:(Tree.mk n ks).size≤N+1) (hT:S.R.drop i=(Tree.mk n ks).row++rest) (hA:∀t∈ks,TopT t) (hb:Bd s B) (hB:B+(Tree.mk n ks).size≤1099511627776) (hsc:s.scopes=[]) (hlp:s.loops=[]) (hd:d≤257) (hkk:k≤1099511627776) (hK:CK S s ms w)
  (t2:(n.kind==2)=false) (t3:(n.kind==3)=false) (t4:(n.kind==4)=false) (t5:(n.kind==5)=false) (t6:(n.kind==6)=false) (t10:(n.kind==10)=false) (t11:(n.kind==11)=false) (t12:(n.kind==12)=false) (t25:(n.kind==25)=false) (t7:(n.kind==7)=false) (t23:(n.kind==23)=false) (t13:(n.kind==13)=false) (t14:(n.kind==14)=false) :
  Calls Tryz.prog 29 #[.pointer (some ⟨S.bp,0,none⟩),.int .i64 (i:Int),.int .i64 (d:Int),.int .i64 (k:Int)] w (COut S ms w (chk S.E (Tree.mk n ks) d k s)):=by
 obtain⟨r,hr⟩:∃r,Hid (chk S.E (Tree.mk n ks) d k s=r):=⟨_,rfl⟩
 rw[hr.out]
 have HM:Hid ((need (decide (256<d)) 71 n.at' >>= fun _=>chks S.E ks (d+1) 0 s)=r):=by
  have h1:=hr.out
  unfold chk at h1
  simp only[t2,t3,t4,t5,t6,t10,t11,t12,t25,t7,t23,t13,t14,Bool.or_false,Bool.false_or,Bool.or_true,Bool.true_or,Bool.or_self,Bool.false_eq_true,if_true,if_false,reduceIte]at h1
  exact h1
 clear hr
 obtain⟨hrow,hnode⟩:=row_tail hT
 have hszT:(Tree.mk n ks).size=sizes ks+1:=by simp[Tree.size]
 have hkl:ks.length≤sizes ks:=by rw[←rows_sizes];exact rowsGe ks
 have hil:(i:Int)<S.R.length:=by have:=(List.getElem?_eq_some_iff.1 hnode).1;omega
 have hx:n.text.length≤140737488351232:=(hK.ok _ (List.mem_of_getElem? hnode)).text
 obtain⟨sv,lv,hb0,_,_⟩:=hK.ex
 obtain⟨rc,rz,rset,rb⟩:=hb0.rules
 have hlim:=hK.lim;have hgl0:=hK.rat.gl
 obtain⟨rc0,hgl,rbk,n0,n1,n2,n3,n4,n5⟩:=nrd hK hnode
 obtain⟨W5,hW5⟩:∃X,X=nw S n i d ks w:=⟨_,rfl⟩
 obtain⟨hF5,k4,k5,k6,k8,k9,k10⟩:=hW5 ▸ npre S n i d ks w
 unfold nw at hW5
 have hK5:=hK.fr hF5
 obtain⟨sv5,lv5,hb5,_,_⟩:=hK5.ex
 have hk:=kids_any S.bp S.R rest i S.g S.c n ks hT hlim W5 hK5.rat _ hb5 rfl
 have hcw:=nfault_any (S:=S) (ms:=ms) (w:=w) (decide (256<(d:Int))) 71 (ks.length:Int) (w.heap.size+1+1+1) n k8 hK5.low HM (by simp;omega)
 have HK5:=Lib.hid hK5;have HT:=Lib.hid hT;have HR:=Lib.hid hrow;have HN:=Lib.hid hnode;have HA:=Lib.hid hA;have HF5:=Lib.hid hF5;have HKx:=Lib.hid hK;have HB:=Lib.hid hb
 clear hK5 hT hrow hnode hA hF5 hK hb hb5 HM hb0
 have hdi:(d:Int)≤300:=by omega
 have hki:(k:Int)≤1099511627776:=by omega
 go_enter Tryz.func29,Tryz.ntmps29
 go_wp2_with (fail)
 go_region
 go_wp2_with (fail)
 rw[←hW5]
 clear hW5 rc rz rset rb rc0 hgl0 hgl rbk n0 n1 n2 n3 n4 n5
 go_at_call 50
 refine hcw.mono ?_
 clear hcw
 rintro e1 w1 (⟨ft,rfl,hout⟩|⟨rfl,rfl,hq1,HM⟩)
 ·exact⟨rfl,hout⟩
 have hd2:d≤256:=by simpa using hq1
 obtain⟨c4,z4,s4,l4⟩:=k4.rules
 obtain⟨c5,z5,s5,l5⟩:=k5.rules
 go_wp2_with (fail)
 go_at_call 31
 refine hk.mono ?_
 clear hk c4 z4 s4 l4 c5 z5 s5 l5
 rintro e2 w2 ⟨v,rfl,hown,hf2⟩
 obtain⟨g',cur,sa,sc,rfl,hgb,hcur,hsa,hcap⟩:=kids_blk hown (k5.fr hf2 (by simp))
 obtain⟨W,hW⟩:∃X,X=w2.alloc (.cells #[.slice sa ks.length sc] 36):=⟨_,rfl⟩
 have hfW:Fr [] w2 W:=by rw[hW];exact(Fr.refl _ _).alloc _
 have hf5W:Fr [] W5 W:=hf2.trans hfW
 have nf:NF S n i d ks w.heap.size (w.heap.size+1) (w.heap.size+1+1) (w.heap.size+1+1+1) (w.heap.size+1+1+1+1) (w.heap.size+1+1+1+1+1) w2.heap.size g' sc sa cur W :=
  ⟨k4.fr hf5W (by simp),k5.fr hf5W (by simp),k6.fr hf5W (by simp),k8.fr hf5W (by simp),k9.fr hf5W (by simp),k10.fr hf5W (by simp),by rw[hW];exact Blk.new _ _ _,hgb.fr hfW (by simp),fun j q hj=>hcur j _ (by simp[ivals,hj]),fun hne=>hsa (List.length_pos_iff.2 hne),hcap⟩
 have hKW:=HK5.out.fr hf5W
 have hcW:Ct w W:=Ct.of_fr (HF5.out.trans hf5W)
 clear hfW hf5W hgb hcur hsa hown hf2 k4 k5 k6 k8 k9 k10 HK5 HF5
 go_upto_region 7 with(fail)
 rw[←hW]
 clear hW
 generalize w2.heap.size=b12 at *
 obtain⟨c8,z8,s8,l8⟩:=nf.h8.rules
 have hea:=eachT_any ih ks rest (i+1) d B s ms W g' sc w.heap.size (w.heap.size+1+1) sa cur (by omega) HR.out HA.out hsc HB.out (by rw[hsc];simp) hlp (by omega) hKW (by omega) nf.hg nf.hc nf.hsa nf.h4 nf.h6
 obtain⟨c10,z10,s10,l10⟩:=nf.h10.rules
 obtain⟨c12,z12,s12,l12⟩:=nf.h12.rules
 go_wp2_with (fail)
 go_at_call 51
 refine hea.mono ?_
 rintro e5 w5 ho
 rcases ho.last HM hcW with⟨ft,h1,rfl,h3⟩|⟨s2,h1,rfl,K2,C2⟩
 ·exact⟨rfl,.inl ⟨ft,h1,rfl,h3⟩⟩
 ·go_wp2
  go_end0
  exact .inr ⟨s2,h1,rfl,K2,C2⟩
end Go.Proofs.YtoomapkcoibmhaaGreatDoor
end
section
open Go Go.Proofs Go.RowKit Go.Shelf Go.Maps Ck
namespace Go.Proofs.YtoomapkcoibmhaaGreatDoor
mutual
theorem gm_shp:∀(t:Tree),t.all Gm→4≤t.n.kind→t.all Shp
 | .mk n ks,ha,hk=>by
  have hk:4≤n.kind:=hk
  obtain⟨h1,h2,h3,h4,h5⟩:=gm_parts ha.1
  refine⟨⟨?_,⟨h3,h1⟩,h4,by omega⟩,gm_shps ks ha.2 ?_⟩
  ·show(n.kind==2||n.kind==3)=false
   simp;omega
  ·intro t ht
   exact gm_kid ha.1 (by omega) t ht
theorem gm_shps:∀(l:List Tree),alls Gm l→(∀t∈l,4≤t.n.kind)→alls Shp l
 | [],_,_=>trivial
 | t::l,ha,hk=>⟨gm_shp t ha.1 (hk t (by simp)),gm_shps l ha.2 (fun u hu=>hk u (by simp[hu]))⟩
end
mutual
theorem row_kind:∀(t:Tree),t.all Gm→∀n∈t.row,0≤n.kind∧n.kind≤31
 | .mk m ks,ha,n,hn=>by
  unfold Tree.row at hn
  rcases List.mem_cons.1 hn with rfl|hn
  ·have:=gm_parts ha.1
   exact⟨this.2.1,this.1⟩
  ·exact rows_kind ks ha.2 n hn
theorem rows_kind:∀(l:List Tree),alls Gm l→∀n∈rows l,0≤n.kind∧n.kind≤31
 | [],_,n,hn=>by cases hn
 | t::l,ha,n,hn=>by
  unfold rows at hn
  rcases List.mem_append.1 hn with hn|hn
  ·exact row_kind t ha.1 n hn
  ·exact rows_kind l ha.2 n hn
end
end Go.Proofs.YtoomapkcoibmhaaGreatDoor
end
