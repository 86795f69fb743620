/- A part of the proof. -/
import Derived.Test.YtoomapkcoibmhaaGreatDoorQ33
set_option maxRecDepth 100000
set_option maxHeartbeats 12800000
set_option linter.all false
section
open Go Go.Proofs Go.RowKit Go.Shelf Go.Maps Ck
namespace Go.Proofs.YtoomapkcoibmhaaGreatDoor
attribute [local go_sem] Oper.semAt_some
theorem KJ {S:lH} {N:Nat} (ih:rR S N) (n:Ck.Node) (ks:List Tree) (rest:List Ck.Node) (i d k B:Nat) (s:CS) (ms:List Nat) (w:World) (hs:(Tree.mk n ks).size≤N+1) (hT:S.R.drop i=(Tree.mk n ks).row++rest) (hA:oH sK ks) (Ik:S.R.length≤S.c∧S.c≤maxLen) (hb:Bd s B) (hB:B+(Tree.mk n ks).size≤1099511627776) (hsc:s.scopes.length≤d) (hlp:s.loops.length≤d) (hd:d≤257) (hkk:k≤1099511627776) (Il:n.kind=3→ks≠[]) (Un:∀m∈(Tree.mk n ks).row,L8 m) (hK:CK S s ms w)
  (t2:(n.kind==2)=false) (t3:(n.kind==3)=true) (t4:(n.kind==4)=false) (t5:(n.kind==5)=false) (t6:(n.kind==6)=false) (t10:(n.kind==10)=false) (t11:(n.kind==11)=false) (t12:(n.kind==12)=false) (t25:(n.kind==25)=false) (t7:(n.kind==7)=false) (t23:(n.kind==23)=false) (uw:(n.kind==13)=false) (uy:(n.kind==14)=false) :
  Calls Tryz.prog 29 #[.pointer (some ⟨S.bp,0,none⟩),.int .i64 (i:Int),.int .i64 (d:Int),.int .i64 (k:Int)] w (iq S ms w (jg S.E (Tree.mk n ks) d k s)):=by
 obtain⟨r,hr⟩:∃r,Hid (jg S.E (Tree.mk n ks) d k s=r):=⟨_,rfl⟩
 rw[hr.out]
 have HM:Hid ((need (decide (256<d)) 71 n.at' >>= fun _=>(need ((arity n.text).isSome||s.ahead.contains n.text) 80 n.at' >>= fun _=>(gu S.E ks (d+1) 0 ⟨[]::s.scopes,[],n.text::s.ahead⟩ >>= fun s'=>need (decide (64<constants (.mk n ks))) 84 n.at' >>= fun _=>need (!S.E.free&&decide (64<registers (.mk n ks))) 83 n.at' >>= fun _=>pure { s' with scopes:=s'.scopes.tail })))=r):=by
  have h1:=hr.out;unfold jg at h1;simp only[t2,t3,t4,t5,t6,t10,t11,t12,t25,t7,t23,uw,uy,Bool.or_false,Bool.false_or,Bool.or_true,Bool.true_or,Bool.or_self,Bool.false_eq_true,if_true,if_false,reduceIte]at h1;exact h1
 clear hr;obtain⟨hrow,aD⟩:=bJ hT
 have o9:(Tree.mk n ks).size=sizes ks+1:=by simp[Tree.size]
 have hkl:ks.length≤sizes ks:=by rw[←bP];exact eZ ks
 have hil:(i:Int)<S.R.length:=by have:=(List.getElem?_eq_some_iff.1 aD).1;omega
 have hx:n.text.length≤140737488351232:=(hK.ok _ (List.mem_of_getElem? aD)).text;obtain⟨sv,lv,hb0,_,_⟩:=hK.ex
 obtain⟨rc,rz,bE,rb⟩:=hb0.rules
 have hlim:=hK.lim;have ko:=hK.rat.gl;obtain⟨rP,hgl,uW,n0,n1,n2,n3,n4,n5⟩:=Jg hK aD
 obtain⟨W5,gU⟩:∃X,X=nw S n i d ks w:=⟨_,rfl⟩
 obtain⟨kJ,k4,k5,k6,k8,k9,k10⟩:=gU ▸ npre S n i d ks w
 unfold nw at gU;have gP:=hK.fr kJ;obtain⟨Ko,Kq,hb5,_,_⟩:=gP.ex
 have hk:=dM S.bp S.R rest i S.g S.c n ks hT hlim W5 gP.rat _ hb5 rfl;have hcw:=aQ (S:=S) (ms:=ms) (w:=w) (decide (256<(d:Int))) 71 (ks.length:Int) (w.heap.size+1+1+1) n k8 gP.low HM (by simp;omega);have oJ:=Lib.hid gP;have HT:=Lib.hid hT;have HR:=Lib.hid hrow;have HN:=Lib.hid aD;have HA:=Lib.hid hA;have nI:=Lib.hid kJ;have Kr:=Lib.hid hK;have HB:=Lib.hid hb;clear gP hT hrow aD hA kJ hK hb hb5 HM hb0;have hdi:(d:Int)≤300:=by omega
 have hki:(k:Int)≤1099511627776:=by omega
 go_enter Tryz.func29,Tryz.ntmps29
 go_wp2_with (fail)
 go_region
 go_wp2_with (fail)
 rw[←gU];clear gU rc rz bE rb rP ko hgl uW n0 n1 n2 n3 n4 n5
 go_at_call 50
 refine hcw.mono ?_;clear hcw;rintro e1 w1 (⟨ft,rfl,hout⟩|⟨rfl,rfl,hq1,HM⟩)
 ·exact⟨rfl,hout⟩
 have hd2:d≤256:=by simpa using hq1
 obtain⟨c4,z4,s4,l4⟩:=k4.rules
 obtain⟨c5,z5,s5,l5⟩:=k5.rules
 go_wp2_with (fail)
 go_at_call 31
 refine hk.mono ?_;clear hk c4 z4 s4 l4 c5 z5 s5 l5;rintro e2 w2 ⟨v,rfl,hown,hf2⟩;obtain⟨g',cur,sa,sc,rfl,hgb,hcur,hsa,hcap⟩:=fZ hown (k5.fr hf2 (by simp))
 obtain⟨W,hW⟩:∃X,X=w2.alloc (.cells #[.slice sa ks.length sc] 36):=⟨_,rfl⟩
 have kK:Fr [] w2 W:=by rw[hW];exact(Fr.refl _ _).alloc _
 have aN:Fr [] W5 W:=hf2.trans kK
 have nf:NF S n i d ks w.heap.size (w.heap.size+1) (w.heap.size+1+1) (w.heap.size+1+1+1) (w.heap.size+1+1+1+1) (w.heap.size+1+1+1+1+1) w2.heap.size g' sc sa cur W :=
  ⟨k4.fr aN (by simp),k5.fr aN (by simp),k6.fr aN (by simp),k8.fr aN (by simp),k9.fr aN (by simp),k10.fr aN (by simp),by rw[hW];exact au.new _ _ _,hgb.fr kK (by simp),fun j q hj=>hcur j _ (by simp[gM,hj]),fun hne=>hsa (List.length_pos_iff.2 hne),hcap⟩
 have hKW:=oJ.out.fr aN;have hcW:Ct w W:=Ct.aC (nI.out.trans aN);clear kK aN hgb hcur hsa hown hf2 k4 k5 k6 k8 k9 k10 oJ nI
 go_upto_region 7 with(fail)
 rw[←hW];clear hW;generalize w2.heap.size=b12 at *;obtain⟨c8,z8,s8,l8⟩:=nf.h8.rules
 have har:=xM n.text (by simp[maxLen];omega) W
 go_wp2_with (fail)
 go_at_call 54
 refine har.mono ?_;rintro e3 w3 ⟨rfl,hf3⟩;replace nf:=nf.ct (Ct.aC hf3);replace hKW:=hKW.fr hf3;replace hcW:=hcW.trans (Ct.aC hf3);clear har hf3 c8 z8 s8 l8;obtain⟨sv,lv,hbk,hsr,hlr⟩:=hKW.ex
 obtain⟨av,WJ⟩:∃av:Int,(Ck.arity n.text).getD 0=av:=⟨_,rfl⟩
 rw[WJ];clear WJ;have Qd:=hKW.Ea;cases hal:(Ck.arity n.text).isSome with
 | true =>
  have iL:=aQ (S:=S) (ms:=ms) (w:=w) (true) 80 (ks.length:Int) (w.heap.size+1+1+1) n (nf.h8.fr (Fr.refl [] _).drew (by simp)) (hKW.fr (Fr.refl [] _).drew).low HM (by rw[hal];rfl);have HAL:=Lib.hid hal;clear hal
  go_wp2_with (fail)
  have hS:(fun X:World=>SR S w.heap.size (w.heap.size+1+1+1) (w.heap.size+1+1+1+1) n.text X∧X.cell? ⟨S.bp,4,none⟩=some (.map (some S.ma))) w3.drew:=⟨nf.sr.drew,hbk.rules.1 4⟩
  refine wp_region_held (S:=fun X:World=>SR S w.heap.size (w.heap.size+1+1+1) (w.heap.size+1+1+1+1) n.text X∧X.cell? ⟨S.bp,4,none⟩=some (.map (some S.ma))) (by kernel_rfl) ?_;refine tk 0 (.func (.func 50) #[] #[.pointer (some ⟨w.heap.size+1+1+1,0,none⟩)]) rfl hS (fun X hX=>?_) ?_
  ·obtain⟨⟨hX1,hX2,fP⟩,jP⟩:=hX;go_simp
  simp only[Act.put,acts];refine tk 1 (.bool true) rfl hS (fun X hX=>?_) ?_
  ·go_simp
  simp only[Act.put,acts];refine tk 2 (.bool true) rfl hS (fun X hX=>?_) ?_
  ·go_simp
  simp only[Act.put,acts];refine tks 3 rfl hS ?_;simp only[Act.put,acts];refine tks 4 rfl hS ?_;simp only[Act.put,acts];refine tks 5 rfl hS ?_;simp only[Act.put,acts];refine tks 6 rfl hS ?_;simp only[Act.put,acts];refine tks 7 rfl hS ?_;simp only[Act.put,acts];refine tks 8 rfl hS ?_;simp only[Act.put,acts];refine tks 9 rfl hS ?_;simp only[Act.put,acts];refine tk 10 (.bool true) rfl hS (fun X hX=>?_) ?_
  ·go_simp
  simp only[Act.put,acts];refine wpAnyH_all (rs:=[11]) (by kernel_rfl) (by simp) ?_;intro i2 hi2;obtain rfl:i2=11:=by simpa using hi2
  refine wpOp_step rfl (fun K0 dz=>?_);rw[if_pos (by kernel_rfl)];go_simp;refine iL.mono ?_;rintro e4 w4 (⟨ft,rfl,hout⟩|⟨_,_,hq2,_⟩)
  ·exact⟨rfl,hout⟩
  ·rw[HAL.out]at hq2;cases hq2
 | false =>
  obtain⟨tb,htb⟩:∃tb:Bool,s.ahead.contains n.text=tb:=⟨_,rfl⟩
  have hhas:=qZ S.ma s.ahead n.text (by simp[maxLen];omega) w3.drew (Qd.fr (Fr.refl [] _).drew);rw[htb]at hhas
  have PV:=Lib.hid (And.intro hal htb);clear hal htb
  go_wp2_with (fail)
  have hS:(fun X:World=>SR S w.heap.size (w.heap.size+1+1+1) (w.heap.size+1+1+1+1) n.text X∧X.cell? ⟨S.bp,4,none⟩=some (.map (some S.ma))) w3.drew:=⟨nf.sr.drew,hbk.rules.1 4⟩
  refine wp_region_held (S:=fun X:World=>SR S w.heap.size (w.heap.size+1+1+1) (w.heap.size+1+1+1+1) n.text X∧X.cell? ⟨S.bp,4,none⟩=some (.map (some S.ma))) (by kernel_rfl) ?_;refine tk 0 (.func (.func 50) #[] #[.pointer (some ⟨w.heap.size+1+1+1,0,none⟩)]) rfl hS (fun X hX=>?_) ?_
  ·obtain⟨⟨hX1,hX2,fP⟩,jP⟩:=hX;go_simp
  simp only[Act.put,acts];refine tk 1 (.bool false) rfl hS (fun X hX=>?_) ?_
  ·go_simp
  simp only[Act.put,acts];refine tk 2 (.bool false) rfl hS (fun X hX=>?_) ?_
  ·go_simp
  simp only[Act.put,acts];refine tk 3 (.pointer (some ⟨S.bp,0,none⟩)) rfl hS (fun X hX=>?_) ?_
  ·obtain⟨⟨hX1,hX2,fP⟩,jP⟩:=hX;go_simp
  simp only[Act.put,acts];refine tk 4 (.pointer (some ⟨S.bp,0,none⟩)) rfl hS (fun X hX=>?_) ?_
  ·go_simp
  simp only[Act.put,acts];refine tk 5 (.pointer (some ⟨S.bp,4,none⟩)) rfl hS (fun X hX=>?_) ?_
  ·go_simp
  simp only[Act.put,acts];refine tk 6 (.map (some S.ma)) rfl hS (fun X hX=>?_) ?_
  ·obtain⟨⟨hX1,hX2,fP⟩,jP⟩:=hX;go_simp
  simp only[Act.put,acts];refine tk 7 (.pointer (some ⟨w.heap.size+1+1+1,3,none⟩)) rfl hS (fun X hX=>?_) ?_
  ·go_simp
  simp only[Act.put,acts];refine tk 8 (.string ⟨n.text.toArray⟩) rfl hS (fun X hX=>?_) ?_
  ·obtain⟨⟨hX1,hX2,fP⟩,jP⟩:=hX;go_simp
  simp only[Act.put,acts];refine wpAnyH_all (rs:=[9]) (by kernel_rfl) (by simp) ?_;intro i2 hi2;obtain rfl:i2=9:=by simpa using hi2
  refine wpOp_step rfl (fun K0 dz=>?_);rw[if_pos (by kernel_rfl)];go_simp;refine hhas.mono ?_;rintro e5 w5 ⟨rfl,fF⟩;have ru:Fr [] w3 w5:=((Fr.refl [] _).drew).trans fF;have hS5:(fun X:World=>SR S w.heap.size (w.heap.size+1+1+1) (w.heap.size+1+1+1+1) n.text X∧X.cell? ⟨S.bp,4,none⟩=some (.map (some S.ma))) w5:=⟨hS.1.fr fF,fF.cell hS.2 (by simp)⟩
  clear hS;have hS:=hS5;refine dz _ _ ⟨hS,?_⟩;refine tk 10 (.bool tb) rfl hS (fun X hX=>?_) ?_
  ·go_simp
  simp only[Act.put,acts];have iL:=aQ (S:=S) (ms:=ms) (w:=w) (tb) 80 (ks.length:Int) (w.heap.size+1+1+1) n (nf.h8.fr ru (by simp)) (hKW.fr ru).low HM (by rw[PV.out.1,PV.out.2];rfl);refine wpAnyH_all (rs:=[11]) (by kernel_rfl) (by simp) ?_;intro i2 hi2;obtain rfl:i2=11:=by simpa using hi2
  refine wpOp_step rfl (fun K0 dz=>?_);rw[if_pos (by kernel_rfl)];go_simp;refine iL.mono ?_;rintro e4 V (⟨ft,rfl,hout⟩|⟨rfl,oK,hq2,HM⟩)
  ·exact⟨rfl,hout⟩
  have jK:Fr [] w3 V:=by rw[←oK];exact ru
  replace nf:=nf.ct (Ct.aC jK);replace hKW:=hKW.fr jK;replace hcW:=hcW.trans (Ct.aC jK);refine dz _ _ ⟨by rw[←oK];exact hS,wpAnyH_done (by kernel_rfl) ?_ _⟩;clear oK jK;clear iL hS hS5 hhas fF ru hsr hlr hbk Qd PV;obtain⟨sv,lv,hbk,hsr,hlr⟩:=hKW.ex
  go_wp2_with (fail)
  have hS:(fun X:World=>SR S w.heap.size (w.heap.size+1+1+1) (w.heap.size+1+1+1+1) n.text X∧X.cell? ⟨S.bp,4,none⟩=some (.map (some S.ma))) V.drew:=⟨nf.sr.drew,hbk.rules.1 4⟩
  refine wp_region_held (S:=fun X:World=>SR S w.heap.size (w.heap.size+1+1+1) (w.heap.size+1+1+1+1) n.text X∧X.cell? ⟨S.bp,4,none⟩=some (.map (some S.ma))) (by kernel_rfl) ?_;refine tk 0 (.pointer (some ⟨S.bp,0,none⟩)) rfl hS (fun X hX=>?_) ?_
  ·obtain⟨⟨hX1,hX2,fP⟩,jP⟩:=hX;go_simp
  simp only[Act.put,acts];refine tk 1 (.pointer (some ⟨S.bp,0,none⟩)) rfl hS (fun X hX=>?_) ?_
  ·go_simp
  simp only[Act.put,acts];refine tk 2 (.pointer (some ⟨S.bp,4,none⟩)) rfl hS (fun X hX=>?_) ?_
  ·go_simp
  simp only[Act.put,acts];refine tk 3 (.map (some S.ma)) rfl hS (fun X hX=>?_) ?_
  ·obtain⟨⟨hX1,hX2,fP⟩,jP⟩:=hX;go_simp
  simp only[Act.put,acts];refine tk 4 (.pointer (some ⟨w.heap.size+1+1+1,3,none⟩)) rfl hS (fun X hX=>?_) ?_
  ·go_simp
  simp only[Act.put,acts];refine tk 5 (.string ⟨n.text.toArray⟩) rfl hS (fun X hX=>?_) ?_
  ·obtain⟨⟨hX1,hX2,fP⟩,jP⟩:=hX;go_simp
  simp only[Act.put,acts];refine tk 6 (.agg #[]) rfl hS (fun X hX=>?_) ?_
  ·go_simp
  simp only[Act.put,acts];obtain⟨nn,D,hown,hnn,hhas⟩:=hKW.Ea.fr (Fr.refl [] V).drew
  have hnl:nn<maxLen:=by have:=HB.out.ah;simp[maxLen];omega
  refine wpAnyH_all (rs:=[7]) (by kernel_rfl) (by simp) ?_;intro i2 hi2;obtain rfl:i2=7:=by simpa using hi2
  refine wpOp_step rfl (fun K0 dz=>?_);rw[if_pos (by kernel_rfl)];refine jB V.drew (.tmp 62) (.tmp 64) (.tmp 65) 64 rfl 9 70 l6 Tryz.underlying64 unitElem S.ma nn D rfl hown hnl (.string ⟨n.text.toArray⟩) (.agg #[]) _ rfl rfl (uj (by simp[maxLen];omega)) (.agg []) [] unitElem_mk ?_;intro w7 wu R4;obtain⟨Rh,R5⟩:=(hKW.fr (Fr.refl [] V).drew).Hq (x:=n.text) (by simp[maxLen];omega) hnn hown.isMap hhas wu R4
  have Dj:Ct V w7:=(Ct.aC (Fr.refl [] V).drew).trans R5;replace nf:=nf.ct Dj;replace hcW:=hcW.trans Dj;obtain⟨U8,lv2,hbk2,Uo,abM⟩:=Rh.ex
  refine dz _ _ ⟨⟨nf.sr,hbk2.rules.1 4⟩,wpAnyH_done (by kernel_rfl) ?_ _⟩;clear dz hS R5 Dj hKW hbk hsr hlr hown hhas wu R4 hnn hnl;obtain⟨c4,z4,s4,l4⟩:=nf.h4.rules
  obtain⟨cb,zb,sb,lb⟩:=hbk2.rules
  obtain⟨Rj,Dj⟩:=Rh.LQ hbk2 Uo
  obtain⟨w8,hw8⟩:∃X,X=Ck.blk w7 S.bp #[.slice (some ⟨S.g,0,none⟩) S.R.length S.c,.bool S.E.free,.map (some S.mg),.map (some S.mp),.map (some S.ma),U8,.slice none 0 0] 69:=⟨_,rfl⟩
  go_upto_region 14 with(fail)
  rw[←hw8];rw[←hw8]at Rj Dj
  clear hw8 c4 z4 s4 l4 cb zb sb lb;replace nf:=nf.ct Dj;replace hcW:=hcW.trans Dj;obtain⟨c4,z4,s4,l4⟩:=nf.h4.rules
  have hfm:Fr [] w8 (w8.alloc (.map #[] 0)):=(Fr.refl _ _).alloc _;have U9:=Rj.fr hfm;have hset:eP (w8.alloc (.map #[] 0)) w8.heap.size []:=⟨0,_,World.ownsMap_made w8 _ _ _,by simp,fun x=>by simp[Maps.has]⟩
  have hin:=Bb #[.pointer (some ⟨w.heap.size+1+1+1+1+1,0,none⟩),.pointer (some ⟨b12,0,none⟩)] w8.heap.size [] (gu S.E ks (d+1) 0 ⟨[]::s.scopes,[],n.text::s.ahead⟩) U9 hset (qC Rj) Rj.bw (by show s.scopes.length≤1000;omega) (fun w1 k1 q1=>Ed S (w8.heap.size::ms) _ _ _ _ _ _ w1 (nf.ct ((Ct.aC hfm).trans q1)).h10 (nf.ct ((Ct.aC hfm).trans q1)).h12 (NF.each ih (nf.ct ((Ct.aC hfm).trans q1)) rest (B+1) _ (w8.heap.size::ms) (by omega) HR.out HA.out (by simp) ⟨fun l hl=>by
    rcases List.mem_cons.1 hl with rfl|hl
    ·simp
    ·exact Nat.le_succ_of_le (HB.out.sc l hl),by have:=HB.out.ah;simp;omega⟩ (by simp;omega) (by simp) (by omega) k1 (by omega)))
  have hmm:=@run_makeMap Tryz.prog
  go_wp2_with (fail)
  go_at_call 56
  refine hin.mono ?_;clear hin hmm c4 z4 s4 l4;rintro e5 w5 ho
  have nf5:e5=.returned (.tuple #[])→NF S n i d ks w.heap.size (w.heap.size+1) (w.heap.size+1+1) (w.heap.size+1+1+1) (w.heap.size+1+1+1+1) (w.heap.size+1+1+1+1+1) b12 g' sc sa cur w5:=fun he=>by
   rcases ho with⟨ft,_,rfl,_⟩|⟨s2,_,_,_,C2⟩
   ·simp[Db]at he
   ·exact nf.ct ((Ct.aC hfm).trans C2)
  have WK:=(abK (gu S.E ks (d+1) 0 ⟨[]::s.scopes,[],n.text::s.ahead⟩) (fun s2=>need (decide (64<constants (.mk n ks))) 84 n.at' >>= fun _=>need (!S.E.free&&decide (64<registers (.mk n ks))) 83 n.at' >>= fun _=>pure s2)).symm.trans HM.out;clear HM;have HM:=Lib.hid WK;clear WK;rcases ho.uq HM (hcW.trans (Ct.aC hfm)) with⟨ft,rfl,hout⟩|⟨s2,rfl,hK2,hC2,hok2,dD⟩
  ·exact⟨rfl,hout⟩
  have nf6:=nf5 rfl;clear nf nf5 U9 hset Rj ho HM;have nf:=nf6;have HM:=dD;replace hcW:=(hcW.trans (Ct.aC hfm)).trans hC2;clear nf6 dD hC2 hfm;have hKW:=hK2;clear hK2;obtain⟨sv,lv,hbk,hsr,hlr⟩:=hKW.ex
  obtain⟨c8,z8,s8,l8⟩:=nf.h8.rules
  have hco:=BN S hlim Ik (Tree.mk n ks) rest i w5.drew HT.out (hKW.hw.fr (Fr.refl [] _).drew List.not_mem_nil List.not_mem_nil) Un
  go_wp2_with (fail)
  have hS:(fun X:World=>SR S w.heap.size (w.heap.size+1+1+1) (w.heap.size+1+1+1+1) n.text X∧X.cell? ⟨w.heap.size+1,0,none⟩=some (.int .i64 (i:Int))∧X.cell? ⟨S.bp,1,none⟩=some (.bool S.E.free)) w5.drew:=⟨nf.sr.drew,nf.h5.rules.1 0,hbk.rules.1 1⟩
  refine wp_region_held (S:=fun X:World=>SR S w.heap.size (w.heap.size+1+1+1) (w.heap.size+1+1+1+1) n.text X∧X.cell? ⟨w.heap.size+1,0,none⟩=some (.int .i64 (i:Int))∧X.cell? ⟨S.bp,1,none⟩=some (.bool S.E.free)) (by kernel_rfl) ?_;refine tk 0 (.func (.func 50) #[] #[.pointer (some ⟨w.heap.size+1+1+1,0,none⟩)]) rfl hS (fun X hX=>?_) ?_
  ·obtain⟨⟨hX1,hX2,fP⟩,jP,Jf⟩:=hX;go_simp
  simp only[Act.put,acts];refine tk 1 (.pointer (some ⟨S.bp,0,none⟩)) rfl hS (fun X hX=>?_) ?_
  ·obtain⟨⟨hX1,hX2,fP⟩,jP,Jf⟩:=hX;go_simp
  simp only[Act.put,acts];refine tk 2 (.int .i64 (i:Int)) rfl hS (fun X hX=>?_) ?_
  ·obtain⟨⟨hX1,hX2,fP⟩,jP,Jf⟩:=hX;go_simp
  simp only[Act.put,acts];refine wpAnyH_all (rs:=[3]) (by kernel_rfl) (by simp) ?_;intro i2 hi2;obtain rfl:i2=3:=by simpa using hi2
  refine wpOp_step rfl (fun K0 dz=>?_);rw[if_pos (by kernel_rfl)];go_simp;refine hco.mono ?_;rintro e6 w6 ⟨rfl,jA⟩;have ze:Fr [] w5 w6:=((Fr.refl [] _).drew).trans jA;have WL:(fun X:World=>SR S w.heap.size (w.heap.size+1+1+1) (w.heap.size+1+1+1+1) n.text X∧X.cell? ⟨w.heap.size+1,0,none⟩=some (.int .i64 (i:Int))∧X.cell? ⟨S.bp,1,none⟩=some (.bool S.E.free)) w6:=⟨hS.1.fr jA,jA.cell hS.2.1 (by simp),jA.cell hS.2.2 (by simp)⟩
  clear hS;have hS:=WL;clear WL;refine dz _ _ ⟨hS,?_⟩;obtain⟨cn,hcn⟩:∃cn,constants (Tree.mk n ks)=cn:=⟨_,rfl⟩
  rw[hcn]at HM ⊢
  clear hcn;refine tk 4 (.bool (decide (64<(cn:Int)))) rfl hS (fun X hX=>?_) ?_
  ·go_simp
  simp only[Act.put,acts];have iL:=aQ (S:=S) (ms:=ms) (w:=w) (decide (64<(cn:Int))) 84 (ks.length:Int) (w.heap.size+1+1+1) n (nf.h8.fr ze (by simp)) (hKW.fr ze).low HM (by simp;try omega);refine wpAnyH_all (rs:=[5]) (by kernel_rfl) (by simp) ?_;intro i2 hi2;obtain rfl:i2=5:=by simpa using hi2
  refine wpOp_step rfl (fun K0 dz=>?_);rw[if_pos (by kernel_rfl)];go_simp;refine iL.mono ?_;rintro e4 V (⟨ft,rfl,hout⟩|⟨rfl,oK,hq2,HM⟩)
  ·exact⟨rfl,hout⟩
  have jK:Fr [] w5 V:=by rw[←oK];exact ze
  replace nf:=nf.ct (Ct.aC jK);replace hKW:=hKW.fr jK;replace hcW:=hcW.trans (Ct.aC jK);refine dz _ _ ⟨by rw[←oK];exact hS,wpAnyH_done (by kernel_rfl) ?_ _⟩;clear oK jK;clear iL hS ze jA hbk hsr hlr c8 z8 s8 l8 hco;obtain⟨sv,lv,hbk,hsr,hlr⟩:=hKW.ex
  have WM:n.kind=3:=by simpa using t3
  have hth:Three n ks:=⟨fun h=>(by rw[h]at t11;cases t11),by omega⟩
  have hre:=uo S hlim n ks rest i V.drew HT.out ⟨hth,oG (fun _ _ h=>h.2.1) ks HA.out⟩ (Il WM) (by omega) (hKW.hw.fr (Fr.refl [] _).drew List.not_mem_nil List.not_mem_nil);clear WM;cases hfree:S.E.free with
  | true =>
   rw[hfree]at hbk HM
   have hS:(fun X:World=>SR S w.heap.size (w.heap.size+1+1+1) (w.heap.size+1+1+1+1) n.text X∧X.cell? ⟨w.heap.size+1,0,none⟩=some (.int .i64 (i:Int))∧X.cell? ⟨S.bp,1,none⟩=some (.bool true)) V.drew:=⟨nf.sr.drew,nf.h5.rules.1 0,hbk.rules.1 1⟩
   go_wp2_with (fail)
   refine wp_region_held (S:=fun X:World=>SR S w.heap.size (w.heap.size+1+1+1) (w.heap.size+1+1+1+1) n.text X∧X.cell? ⟨w.heap.size+1,0,none⟩=some (.int .i64 (i:Int))∧X.cell? ⟨S.bp,1,none⟩=some (.bool true)) (by kernel_rfl) ?_;refine tk 0 (.func (.func 50) #[] #[.pointer (some ⟨w.heap.size+1+1+1,0,none⟩)]) rfl hS (fun X hX=>?_) ?_
   ·obtain⟨⟨hX1,hX2,fP⟩,jP,Jf⟩:=hX;go_simp
   simp only[Act.put,acts];refine tk 1 (.pointer (some ⟨S.bp,0,none⟩)) rfl hS (fun X hX=>?_) ?_
   ·obtain⟨⟨hX1,hX2,fP⟩,jP,Jf⟩:=hX;go_simp
   simp only[Act.put,acts];refine tk 2 (.pointer (some ⟨S.bp,0,none⟩)) rfl hS (fun X hX=>?_) ?_
   ·go_simp
   simp only[Act.put,acts];refine tk 3 (.pointer (some ⟨S.bp,1,none⟩)) rfl hS (fun X hX=>?_) ?_
   ·go_simp
   simp only[Act.put,acts];refine tk 4 (.bool true) rfl hS (fun X hX=>?_) ?_
   ·obtain⟨⟨hX1,hX2,fP⟩,jP,Jf⟩:=hX;go_simp
   simp only[Act.put,acts];refine tk 5 (.bool false) rfl hS (fun X hX=>?_) ?_
   ·go_simp
   simp only[Act.put,acts];refine tk 6 (.bool false) rfl hS (fun X hX=>?_) ?_
   ·go_simp
   simp only[Act.put,acts];refine tks 7 rfl hS ?_;simp only[Act.put,acts];refine tks 8 rfl hS ?_;simp only[Act.put,acts];refine tks 9 rfl hS ?_;simp only[Act.put,acts];refine tks 10 rfl hS ?_;simp only[Act.put,acts];refine tk 11 (.bool false) rfl hS (fun X hX=>?_) ?_
   ·go_simp
   simp only[Act.put,acts];have iL:=aQ (S:=S) (ms:=ms) (w:=w) (false) 83 (ks.length:Int) (w.heap.size+1+1+1) n (nf.h8.fr (Fr.refl [] _).drew (by simp)) (hKW.fr (Fr.refl [] _).drew).low HM (rfl);refine wpAnyH_all (rs:=[12]) (by kernel_rfl) (by simp) ?_;intro i2 hi2;obtain rfl:i2=12:=by simpa using hi2
   refine wpOp_step rfl (fun K0 dz=>?_);rw[if_pos (by kernel_rfl)];go_simp;refine iL.mono ?_;rintro e4 V2 (⟨ft,rfl,hout⟩|⟨rfl,oK,hq2,HM⟩)
   ·exact⟨rfl,hout⟩
   have jK:Fr [] V V2:=by rw[←oK];exact(Fr.refl [] _).drew
   replace nf:=nf.ct (Ct.aC jK);replace hKW:=hKW.fr jK;replace hcW:=hcW.trans (Ct.aC jK);refine dz _ _ ⟨by rw[←oK];exact hS,wpAnyH_done (by kernel_rfl) ?_ _⟩;clear oK jK;go_wp2
   go_end0
   exact .inr ⟨s2,HM.out.symm,rfl,hKW,hcW⟩
  | false =>
   rw[hfree]at hbk HM
   have hS:(fun X:World=>SR S w.heap.size (w.heap.size+1+1+1) (w.heap.size+1+1+1+1) n.text X∧X.cell? ⟨w.heap.size+1,0,none⟩=some (.int .i64 (i:Int))∧X.cell? ⟨S.bp,1,none⟩=some (.bool false)) V.drew:=⟨nf.sr.drew,nf.h5.rules.1 0,hbk.rules.1 1⟩
   go_wp2_with (fail)
   refine wp_region_held (S:=fun X:World=>SR S w.heap.size (w.heap.size+1+1+1) (w.heap.size+1+1+1+1) n.text X∧X.cell? ⟨w.heap.size+1,0,none⟩=some (.int .i64 (i:Int))∧X.cell? ⟨S.bp,1,none⟩=some (.bool false)) (by kernel_rfl) ?_;refine tk 0 (.func (.func 50) #[] #[.pointer (some ⟨w.heap.size+1+1+1,0,none⟩)]) rfl hS (fun X hX=>?_) ?_
   ·obtain⟨⟨hX1,hX2,fP⟩,jP,Jf⟩:=hX;go_simp
   simp only[Act.put,acts];refine tk 1 (.pointer (some ⟨S.bp,0,none⟩)) rfl hS (fun X hX=>?_) ?_
   ·obtain⟨⟨hX1,hX2,fP⟩,jP,Jf⟩:=hX;go_simp
   simp only[Act.put,acts];refine tk 2 (.pointer (some ⟨S.bp,0,none⟩)) rfl hS (fun X hX=>?_) ?_
   ·go_simp
   simp only[Act.put,acts];refine tk 3 (.pointer (some ⟨S.bp,1,none⟩)) rfl hS (fun X hX=>?_) ?_
   ·go_simp
   simp only[Act.put,acts];refine tk 4 (.bool false) rfl hS (fun X hX=>?_) ?_
   ·obtain⟨⟨hX1,hX2,fP⟩,jP,Jf⟩:=hX;go_simp
   simp only[Act.put,acts];refine tk 5 (.bool true) rfl hS (fun X hX=>?_) ?_
   ·go_simp
   simp only[Act.put,acts];refine tk 6 (.bool true) rfl hS (fun X hX=>?_) ?_
   ·go_simp
   simp only[Act.put,acts];refine tk 7 (.pointer (some ⟨S.bp,0,none⟩)) rfl hS (fun X hX=>?_) ?_
   ·obtain⟨⟨hX1,hX2,fP⟩,jP,Jf⟩:=hX;go_simp
   simp only[Act.put,acts];refine tk 8 (.int .i64 (i:Int)) rfl hS (fun X hX=>?_) ?_
   ·obtain⟨⟨hX1,hX2,fP⟩,jP,Jf⟩:=hX;go_simp
   simp only[Act.put,acts];refine wpAnyH_all (rs:=[9]) (by kernel_rfl) (by simp) ?_;intro i2 hi2;obtain rfl:i2=9:=by simpa using hi2
   refine wpOp_step rfl (fun K0 dz=>?_);rw[if_pos (by kernel_rfl)];go_simp;refine hre.mono ?_;rintro e7 w7 ⟨rfl,uU⟩;have Uq:Fr [] V w7:=((Fr.refl [] _).drew).trans uU;have WL:(fun X:World=>SR S w.heap.size (w.heap.size+1+1+1) (w.heap.size+1+1+1+1) n.text X∧X.cell? ⟨w.heap.size+1,0,none⟩=some (.int .i64 (i:Int))∧X.cell? ⟨S.bp,1,none⟩=some (.bool false)) w7:=⟨hS.1.fr uU,uU.cell hS.2.1 (by simp),uU.cell hS.2.2 (by simp)⟩
   clear hS;have hS:=WL;clear WL;refine dz _ _ ⟨hS,?_⟩;obtain⟨rg,hrg⟩:∃rg,registers (Tree.mk n ks)=rg:=⟨_,rfl⟩
   rw[hrg]at HM ⊢
   clear hrg;refine tk 10 (.bool (decide (64<(rg:Int)))) rfl hS (fun X hX=>?_) ?_
   ·go_simp
   simp only[Act.put,acts];refine tk 11 (.bool (decide (64<(rg:Int)))) rfl hS (fun X hX=>?_) ?_
   ·go_simp
   simp only[Act.put,acts];have iL:=aQ (S:=S) (ms:=ms) (w:=w) (decide (64<(rg:Int))) 83 (ks.length:Int) (w.heap.size+1+1+1) n (nf.h8.fr Uq (by simp)) (hKW.fr Uq).low HM (by simp;try omega);refine wpAnyH_all (rs:=[12]) (by kernel_rfl) (by simp) ?_;intro i2 hi2;obtain rfl:i2=12:=by simpa using hi2
   refine wpOp_step rfl (fun K0 dz=>?_);rw[if_pos (by kernel_rfl)];go_simp;refine iL.mono ?_;rintro e4 V2 (⟨ft,rfl,hout⟩|⟨rfl,oK,hq2,HM⟩)
   ·exact⟨rfl,hout⟩
   have jK:Fr [] V V2:=by rw[←oK];exact Uq
   replace nf:=nf.ct (Ct.aC jK);replace hKW:=hKW.fr jK;replace hcW:=hcW.trans (Ct.aC jK);refine dz _ _ ⟨by rw[←oK];exact hS,wpAnyH_done (by kernel_rfl) ?_ _⟩;clear oK jK;go_wp2
   go_end0
   exact .inr ⟨s2,HM.out.symm,rfl,hKW,hcW⟩
end Go.Proofs.YtoomapkcoibmhaaGreatDoor
end
