/- A part of the proof. -/
import Derived.Test.YtoomapkcoibmhaaGreatDoorQ5
import Derived.Test.YtoomapkcoibmhaaGreatDoorQ33
set_option maxRecDepth 100000
set_option maxHeartbeats 12800000
set_option linter.all false
section
open Go Go.Proofs Go.RowKit Go.Shelf Go.Maps Ck
namespace Go.Proofs.YtoomapkcoibmhaaGreatDoor
attribute [local go_sem] Oper.semAt_some
theorem KL {S:lH} {N:Nat} (ih:rR S N) (n:Ck.Node) (ks:List Tree) (rest:List Ck.Node) (i d k B:Nat) (s:CS) (ms:List Nat) (w:World) (hs:(Tree.mk n ks).size≤N+1) (hT:S.R.drop i=(Tree.mk n ks).row++rest) (hA:oH sK ks) (Ik:S.R.length≤S.c∧S.c≤maxLen) (hb:Bd s B) (hB:B+(Tree.mk n ks).size≤1099511627776) (hsc:s.scopes.length≤d) (hlp:s.loops.length≤d) (hd:d≤257) (hkk:k≤1099511627776) (Il:n.kind=3→ks≠[]) (hK:CK S s ms w)
  (t2:(n.kind==2)=true) (t3:(n.kind==3)=false) (t4:(n.kind==4)=false) (t5:(n.kind==5)=false) (t6:(n.kind==6)=false) (t10:(n.kind==10)=false) (t11:(n.kind==11)=false) (t12:(n.kind==12)=false) (t25:(n.kind==25)=false) (t7:(n.kind==7)=false) (t23:(n.kind==23)=false) (uw:(n.kind==13)=false) (uy:(n.kind==14)=false) :
  Calls Tryz.prog 29 #[.pointer (some ⟨S.bp,0,none⟩),.int .i64 (i:Int),.int .i64 (d:Int),.int .i64 (k:Int)] w (iq S ms w (jg S.E (Tree.mk n ks) d k s)):=by
 obtain⟨r,hr⟩:∃r,Hid (jg S.E (Tree.mk n ks) d k s=r):=⟨_,rfl⟩
 rw[hr.out]
 have HM:Hid ((need (decide (256<d)) 71 n.at' >>= fun _=>(need ((arity n.text).isSome||s.ahead.contains n.text) 80 n.at' >>= fun _=>(gu S.E ks (d+1) 0 ⟨[]::s.scopes,[],n.text::s.ahead⟩ >>= fun s'=>pure { s' with scopes:=s'.scopes.tail })))=r):=by
  have h1:=hr.out;unfold jg at h1;simp only[t2,t3,t4,t5,t6,t10,t11,t12,t25,t7,t23,uw,uy,Bool.or_false,Bool.false_or,Bool.or_true,Bool.true_or,Bool.or_self,Bool.false_eq_true,if_true,if_false,reduceIte]at h1;exact h1
 clear hr;obtain⟨hrow,aD⟩:=bJ hT
 have o9:(Tree.mk n ks).size=sizes ks+1:=by simp[Tree.size]
 have hkl:ks.length≤sizes ks:=by rw[←bP];exact eZ ks
 have hil:(i:Int)<S.R.length:=by have:=(List.getElem?_eq_some_iff.1 aD).1;omega
 have hx:n.text.length≤140737488351232:=(hK.ok _ (List.mem_of_getElem? aD)).text;obtain⟨sv,lv,hb0,_,_⟩:=hK.ex
 obtain⟨rc,rz,bE,rb⟩:=hb0.rules
 have hlim:=hK.lim;have ko:=hK.rat.gl;obtain⟨rP,hgl,uW,n0,n1,n2,n3,n4,n5⟩:=Jg hK aD
 obtain⟨W5,gU⟩:∃X,X=nw S n i d ks w:=⟨_,rfl⟩
 obtain⟨kJ,k4,k5,k6,k8,k9,k10⟩:=gU ▸ npre S n i d ks w
 unfold nw at gU;have gP:=hK.fr kJ;obtain⟨Ko,Kq,hb5,_,_⟩:=gP.ex
 have hk:=dM S.bp S.R rest i S.g S.c n ks hT hlim W5 gP.rat _ hb5 rfl;have hcw:=aQ (S:=S) (ms:=ms) (w:=w) (decide (256<(d:Int))) 71 (ks.length:Int) (w.heap.size+1+1+1) n k8 gP.low HM (by simp;omega);have oJ:=Lib.hid gP;have HT:=Lib.hid hT;have HR:=Lib.hid hrow;have HN:=Lib.hid aD;have HA:=Lib.hid hA;have nI:=Lib.hid kJ;have Kr:=Lib.hid hK;have HB:=Lib.hid hb;clear gP hT hrow aD hA kJ hK hb hb5 HM hb0;have hdi:(d:Int)≤300:=by omega
 have hki:(k:Int)≤1099511627776:=by omega
 go_enter Tryz.func29,Tryz.ntmps29
 go_wp2_with (fail)
 go_region
 go_wp2_with (fail)
 rw[←gU];clear gU rc rz bE rb rP ko hgl uW n0 n1 n2 n3 n4 n5
 go_at_call 50
 refine hcw.mono ?_;clear hcw;rintro e1 w1 (⟨ft,rfl,hout⟩|⟨rfl,rfl,hq1,HM⟩)
 ·exact⟨rfl,hout⟩
 have hd2:d≤256:=by simpa using hq1
 obtain⟨c4,z4,s4,l4⟩:=k4.rules
 obtain⟨c5,z5,s5,l5⟩:=k5.rules
 go_wp2_with (fail)
 go_at_call 31
 refine hk.mono ?_;clear hk c4 z4 s4 l4 c5 z5 s5 l5;rintro e2 w2 ⟨v,rfl,hown,hf2⟩;obtain⟨g',cur,sa,sc,rfl,hgb,hcur,hsa,hcap⟩:=fZ hown (k5.fr hf2 (by simp))
 obtain⟨W,hW⟩:∃X,X=w2.alloc (.cells #[.slice sa ks.length sc] 36):=⟨_,rfl⟩
 have kK:Fr [] w2 W:=by rw[hW];exact(Fr.refl _ _).alloc _
 have aN:Fr [] W5 W:=hf2.trans kK
 have nf:NF S n i d ks w.heap.size (w.heap.size+1) (w.heap.size+1+1) (w.heap.size+1+1+1) (w.heap.size+1+1+1+1) (w.heap.size+1+1+1+1+1) w2.heap.size g' sc sa cur W :=
  ⟨k4.fr aN (by simp),k5.fr aN (by simp),k6.fr aN (by simp),k8.fr aN (by simp),k9.fr aN (by simp),k10.fr aN (by simp),by rw[hW];exact au.new _ _ _,hgb.fr kK (by simp),fun j q hj=>hcur j _ (by simp[gM,hj]),fun hne=>hsa (List.length_pos_iff.2 hne),hcap⟩
 have hKW:=oJ.out.fr aN;have hcW:Ct w W:=Ct.aC (nI.out.trans aN);clear kK aN hgb hcur hsa hown hf2 k4 k5 k6 k8 k9 k10 oJ nI
 go_upto_region 7 with(fail)
 rw[←hW];clear hW;generalize w2.heap.size=b12 at *;obtain⟨c8,z8,s8,l8⟩:=nf.h8.rules
 have har:=xM n.text (by simp[maxLen];omega) W
 go_wp2_with (fail)
 go_at_call 54
 refine har.mono ?_;rintro e3 w3 ⟨rfl,hf3⟩;replace nf:=nf.ct (Ct.aC hf3);replace hKW:=hKW.fr hf3;replace hcW:=hcW.trans (Ct.aC hf3);clear har hf3 c8 z8 s8 l8;obtain⟨sv,lv,hbk,hsr,hlr⟩:=hKW.ex
 obtain⟨av,WJ⟩:∃av:Int,(Ck.arity n.text).getD 0=av:=⟨_,rfl⟩
 rw[WJ];clear WJ;have Qd:=hKW.Ea;cases hal:(Ck.arity n.text).isSome with
 | true =>
  have iL:=aQ (S:=S) (ms:=ms) (w:=w) (true) 80 (ks.length:Int) (w.heap.size+1+1+1) n (nf.h8.fr (Fr.refl [] _).drew (by simp)) (hKW.fr (Fr.refl [] _).drew).low HM (by rw[hal];rfl);have HAL:=Lib.hid hal;clear hal
  go_wp2_with (fail)
  have hS:(fun X:World=>SR S w.heap.size (w.heap.size+1+1+1) (w.heap.size+1+1+1+1) n.text X∧X.cell? ⟨S.bp,4,none⟩=some (.map (some S.ma))) w3.drew:=⟨nf.sr.drew,hbk.rules.1 4⟩
  refine wp_region_held (S:=fun X:World=>SR S w.heap.size (w.heap.size+1+1+1) (w.heap.size+1+1+1+1) n.text X∧X.cell? ⟨S.bp,4,none⟩=some (.map (some S.ma))) (by kernel_rfl) ?_;refine tk 0 (.func (.func 50) #[] #[.pointer (some ⟨w.heap.size+1+1+1,0,none⟩)]) rfl hS (fun X hX=>?_) ?_
  ·obtain⟨⟨hX1,hX2,fP⟩,jP⟩:=hX;go_simp
  simp only[Act.put,acts];refine tk 1 (.bool true) rfl hS (fun X hX=>?_) ?_
  ·go_simp
  simp only[Act.put,acts];refine tk 2 (.bool true) rfl hS (fun X hX=>?_) ?_
  ·go_simp
  simp only[Act.put,acts];refine tks 3 rfl hS ?_;simp only[Act.put,acts];refine tks 4 rfl hS ?_;simp only[Act.put,acts];refine tks 5 rfl hS ?_;simp only[Act.put,acts];refine tks 6 rfl hS ?_;simp only[Act.put,acts];refine tks 7 rfl hS ?_;simp only[Act.put,acts];refine tks 8 rfl hS ?_;simp only[Act.put,acts];refine tks 9 rfl hS ?_;simp only[Act.put,acts];refine tk 10 (.bool true) rfl hS (fun X hX=>?_) ?_
  ·go_simp
  simp only[Act.put,acts];refine wpAnyH_all (rs:=[11]) (by kernel_rfl) (by simp) ?_;intro i2 hi2;obtain rfl:i2=11:=by simpa using hi2
  refine wpOp_step rfl (fun K0 dz=>?_);rw[if_pos (by kernel_rfl)];go_simp;refine iL.mono ?_;rintro e4 w4 (⟨ft,rfl,hout⟩|⟨_,_,hq2,_⟩)
  ·exact⟨rfl,hout⟩
  ·rw[HAL.out]at hq2;cases hq2
 | false =>
  obtain⟨tb,htb⟩:∃tb:Bool,s.ahead.contains n.text=tb:=⟨_,rfl⟩
  have hhas:=qZ S.ma s.ahead n.text (by simp[maxLen];omega) w3.drew (Qd.fr (Fr.refl [] _).drew);rw[htb]at hhas
  have PV:=Lib.hid (And.intro hal htb);clear hal htb
  go_wp2_with (fail)
  have hS:(fun X:World=>SR S w.heap.size (w.heap.size+1+1+1) (w.heap.size+1+1+1+1) n.text X∧X.cell? ⟨S.bp,4,none⟩=some (.map (some S.ma))) w3.drew:=⟨nf.sr.drew,hbk.rules.1 4⟩
  refine wp_region_held (S:=fun X:World=>SR S w.heap.size (w.heap.size+1+1+1) (w.heap.size+1+1+1+1) n.text X∧X.cell? ⟨S.bp,4,none⟩=some (.map (some S.ma))) (by kernel_rfl) ?_;refine tk 0 (.func (.func 50) #[] #[.pointer (some ⟨w.heap.size+1+1+1,0,none⟩)]) rfl hS (fun X hX=>?_) ?_
  ·obtain⟨⟨hX1,hX2,fP⟩,jP⟩:=hX;go_simp
  simp only[Act.put,acts];refine tk 1 (.bool false) rfl hS (fun X hX=>?_) ?_
  ·go_simp
  simp only[Act.put,acts];refine tk 2 (.bool false) rfl hS (fun X hX=>?_) ?_
  ·go_simp
  simp only[Act.put,acts];refine tk 3 (.pointer (some ⟨S.bp,0,none⟩)) rfl hS (fun X hX=>?_) ?_
  ·obtain⟨⟨hX1,hX2,fP⟩,jP⟩:=hX;go_simp
  simp only[Act.put,acts];refine tk 4 (.pointer (some ⟨S.bp,0,none⟩)) rfl hS (fun X hX=>?_) ?_
  ·go_simp
  simp only[Act.put,acts];refine tk 5 (.pointer (some ⟨S.bp,4,none⟩)) rfl hS (fun X hX=>?_) ?_
  ·go_simp
  simp only[Act.put,acts];refine tk 6 (.map (some S.ma)) rfl hS (fun X hX=>?_) ?_
  ·obtain⟨⟨hX1,hX2,fP⟩,jP⟩:=hX;go_simp
  simp only[Act.put,acts];refine tk 7 (.pointer (some ⟨w.heap.size+1+1+1,3,none⟩)) rfl hS (fun X hX=>?_) ?_
  ·go_simp
  simp only[Act.put,acts];refine tk 8 (.string ⟨n.text.toArray⟩) rfl hS (fun X hX=>?_) ?_
  ·obtain⟨⟨hX1,hX2,fP⟩,jP⟩:=hX;go_simp
  simp only[Act.put,acts];refine wpAnyH_all (rs:=[9]) (by kernel_rfl) (by simp) ?_;intro i2 hi2;obtain rfl:i2=9:=by simpa using hi2
  refine wpOp_step rfl (fun K0 dz=>?_);rw[if_pos (by kernel_rfl)];go_simp;refine hhas.mono ?_;rintro e5 w5 ⟨rfl,fF⟩;have ru:Fr [] w3 w5:=((Fr.refl [] _).drew).trans fF;have hS5:(fun X:World=>SR S w.heap.size (w.heap.size+1+1+1) (w.heap.size+1+1+1+1) n.text X∧X.cell? ⟨S.bp,4,none⟩=some (.map (some S.ma))) w5:=⟨hS.1.fr fF,fF.cell hS.2 (by simp)⟩
  clear hS;have hS:=hS5;refine dz _ _ ⟨hS,?_⟩;refine tk 10 (.bool tb) rfl hS (fun X hX=>?_) ?_
  ·go_simp
  simp only[Act.put,acts];have iL:=aQ (S:=S) (ms:=ms) (w:=w) (tb) 80 (ks.length:Int) (w.heap.size+1+1+1) n (nf.h8.fr ru (by simp)) (hKW.fr ru).low HM (by rw[PV.out.1,PV.out.2];rfl);refine wpAnyH_all (rs:=[11]) (by kernel_rfl) (by simp) ?_;intro i2 hi2;obtain rfl:i2=11:=by simpa using hi2
  refine wpOp_step rfl (fun K0 dz=>?_);rw[if_pos (by kernel_rfl)];go_simp;refine iL.mono ?_;rintro e4 V (⟨ft,rfl,hout⟩|⟨rfl,oK,hq2,HM⟩)
  ·exact⟨rfl,hout⟩
  have jK:Fr [] w3 V:=by rw[←oK];exact ru
  replace nf:=nf.ct (Ct.aC jK);replace hKW:=hKW.fr jK;replace hcW:=hcW.trans (Ct.aC jK);refine dz _ _ ⟨by rw[←oK];exact hS,wpAnyH_done (by kernel_rfl) ?_ _⟩;clear oK jK;clear iL hS hS5 hhas fF ru hsr hlr hbk Qd PV;obtain⟨sv,lv,hbk,hsr,hlr⟩:=hKW.ex
  go_wp2_with (fail)
  have hS:(fun X:World=>SR S w.heap.size (w.heap.size+1+1+1) (w.heap.size+1+1+1+1) n.text X∧X.cell? ⟨S.bp,4,none⟩=some (.map (some S.ma))) V.drew:=⟨nf.sr.drew,hbk.rules.1 4⟩
  refine wp_region_held (S:=fun X:World=>SR S w.heap.size (w.heap.size+1+1+1) (w.heap.size+1+1+1+1) n.text X∧X.cell? ⟨S.bp,4,none⟩=some (.map (some S.ma))) (by kernel_rfl) ?_;refine tk 0 (.pointer (some ⟨S.bp,0,none⟩)) rfl hS (fun X hX=>?_) ?_
  ·obtain⟨⟨hX1,hX2,fP⟩,jP⟩:=hX;go_simp
  simp only[Act.put,acts];refine tk 1 (.pointer (some ⟨S.bp,0,none⟩)) rfl hS (fun X hX=>?_) ?_
  ·go_simp
  simp only[Act.put,acts];refine tk 2 (.pointer (some ⟨S.bp,4,none⟩)) rfl hS (fun X hX=>?_) ?_
  ·go_simp
  simp only[Act.put,acts];refine tk 3 (.map (some S.ma)) rfl hS (fun X hX=>?_) ?_
  ·obtain⟨⟨hX1,hX2,fP⟩,jP⟩:=hX;go_simp
  simp only[Act.put,acts];refine tk 4 (.pointer (some ⟨w.heap.size+1+1+1,3,none⟩)) rfl hS (fun X hX=>?_) ?_
  ·go_simp
  simp only[Act.put,acts];refine tk 5 (.string ⟨n.text.toArray⟩) rfl hS (fun X hX=>?_) ?_
  ·obtain⟨⟨hX1,hX2,fP⟩,jP⟩:=hX;go_simp
  simp only[Act.put,acts];refine tk 6 (.agg #[]) rfl hS (fun X hX=>?_) ?_
  ·go_simp
  simp only[Act.put,acts];obtain⟨nn,D,hown,hnn,hhas⟩:=hKW.Ea.fr (Fr.refl [] V).drew
  have hnl:nn<maxLen:=by have:=HB.out.ah;simp[maxLen];omega
  refine wpAnyH_all (rs:=[7]) (by kernel_rfl) (by simp) ?_;intro i2 hi2;obtain rfl:i2=7:=by simpa using hi2
  refine wpOp_step rfl (fun K0 dz=>?_);rw[if_pos (by kernel_rfl)];refine jB V.drew (.tmp 62) (.tmp 64) (.tmp 65) 64 rfl 9 70 l6 Tryz.underlying64 unitElem S.ma nn D rfl hown hnl (.string ⟨n.text.toArray⟩) (.agg #[]) _ rfl rfl (uj (by simp[maxLen];omega)) (.agg []) [] unitElem_mk ?_;intro w7 wu R4;obtain⟨Rh,R5⟩:=(hKW.fr (Fr.refl [] V).drew).Hq (x:=n.text) (by simp[maxLen];omega) hnn hown.isMap hhas wu R4
  have Dj:Ct V w7:=(Ct.aC (Fr.refl [] V).drew).trans R5;replace nf:=nf.ct Dj;replace hcW:=hcW.trans Dj;obtain⟨U8,lv2,hbk2,Uo,abM⟩:=Rh.ex
  refine dz _ _ ⟨⟨nf.sr,hbk2.rules.1 4⟩,wpAnyH_done (by kernel_rfl) ?_ _⟩;clear dz hS R5 Dj hKW hbk hsr hlr hown hhas wu R4 hnn hnl;obtain⟨c4,z4,s4,l4⟩:=nf.h4.rules
  obtain⟨cb,zb,sb,lb⟩:=hbk2.rules
  obtain⟨Rj,Dj⟩:=Rh.LQ hbk2 Uo
  obtain⟨w8,hw8⟩:∃X,X=Ck.blk w7 S.bp #[.slice (some ⟨S.g,0,none⟩) S.R.length S.c,.bool S.E.free,.map (some S.mg),.map (some S.mp),.map (some S.ma),U8,.slice none 0 0] 69:=⟨_,rfl⟩
  go_upto_region 14 with(fail)
  rw[←hw8];rw[←hw8]at Rj Dj
  clear hw8 c4 z4 s4 l4 cb zb sb lb;replace nf:=nf.ct Dj;replace hcW:=hcW.trans Dj;obtain⟨c4,z4,s4,l4⟩:=nf.h4.rules
  have hfm:Fr [] w8 (w8.alloc (.map #[] 0)):=(Fr.refl _ _).alloc _;have U9:=Rj.fr hfm;have hset:eP (w8.alloc (.map #[] 0)) w8.heap.size []:=⟨0,_,World.ownsMap_made w8 _ _ _,by simp,fun x=>by simp[Maps.has]⟩
  have hin:=Bb #[.pointer (some ⟨w.heap.size+1+1+1+1+1,0,none⟩),.pointer (some ⟨b12,0,none⟩)] w8.heap.size [] (gu S.E ks (d+1) 0 ⟨[]::s.scopes,[],n.text::s.ahead⟩) U9 hset (qC Rj) Rj.bw (by show s.scopes.length≤1000;omega) (fun w1 k1 q1=>Ed S (w8.heap.size::ms) _ _ _ _ _ _ w1 (nf.ct ((Ct.aC hfm).trans q1)).h10 (nf.ct ((Ct.aC hfm).trans q1)).h12 (NF.each ih (nf.ct ((Ct.aC hfm).trans q1)) rest (B+1) _ (w8.heap.size::ms) (by omega) HR.out HA.out (by simp) ⟨fun l hl=>by
    rcases List.mem_cons.1 hl with rfl|hl
    ·simp
    ·exact Nat.le_succ_of_le (HB.out.sc l hl),by have:=HB.out.ah;simp;omega⟩ (by simp;omega) (by simp) (by omega) k1 (by omega)))
  have hmm:=@run_makeMap Tryz.prog
  go_wp2_with (fail)
  go_at_call 56
  refine hin.mono ?_;clear hin hmm c4 z4 s4 l4;rintro e5 w5 ho
  have nf5:e5=.returned (.tuple #[])→NF S n i d ks w.heap.size (w.heap.size+1) (w.heap.size+1+1) (w.heap.size+1+1+1) (w.heap.size+1+1+1+1) (w.heap.size+1+1+1+1+1) b12 g' sc sa cur w5:=fun he=>by
   rcases ho with⟨ft,_,rfl,_⟩|⟨s2,_,_,_,C2⟩
   ·simp[Db]at he
   ·exact nf.ct ((Ct.aC hfm).trans C2)
  rcases ho.last HM (hcW.trans (Ct.aC hfm)) with⟨ft,h1,rfl,h3⟩|⟨s2,h1,rfl,K2,C2⟩
  ·exact⟨rfl,.inl ⟨ft,h1,rfl,h3⟩⟩
  ·obtain⟨c8,z8,s8,l8⟩:=(nf5 rfl).h8.rules
   go_wp2
   go_end0
   exact .inr ⟨s2,h1,rfl,K2,C2⟩
end Go.Proofs.YtoomapkcoibmhaaGreatDoor
end
section
open Go Go.Proofs Go.RowKit Go.Shelf Go.Maps Ck
namespace Ck
theorem Im {α β γ:Type} (x:Except dS α) (f:α→Except dS β) (g:β→Except dS γ):((x >>= f) >>= g)=(x >>= fun a=>f a >>= g):=by
 cases x<;>rfl
theorem uZ (E:Env):∀(qD:List Tree) (b:Tree) (above k:Nat) (v x:Bytes) (s:CS),yY E (qD++[b]) above k v x s=(gu E qD above k s >>= fun s1=>(jg E b above (k+qD.length) { s1 with loops:=x::s1.loops,scopes:=[v]::s1.scopes } >>= fun s'=>pure { s' with loops:=s'.loops.tail,scopes:=s'.scopes.tail }))
 | [],b,above,k,v,x,s=>by
  simp only[List.nil_append];unfold yY gu;rfl
 | t::l,b,above,k,v,x,s=>by
  simp only[List.cons_append];unfold yY gu;have he:(l++[b]).isEmpty=false:=by simp
  rw[he];simp only[Bool.false_eq_true,if_false];rw[Im];congr 1;funext s1;rw[uZ E l b above (k+1) v x s1]
  have:k+1+l.length=k+(t::l).length:=by simp;omega
  rw[this]
theorem WO (X:Except dS CS):(X >>= fun s'=>pure { s' with loops:=s'.loops.tail,scopes:=s'.scopes.tail })=((X >>= fun s'=>pure { s' with scopes:=s'.scopes.tail }) >>= fun s2=>(pure { s2 with loops:=s2.loops.tail }:Except dS CS)):=by
 cases X<;>rfl
theorem BO (l:List Tree) (b:Tree):sizes (l++[b])=sizes l+b.size:=by
 induction l with
 | nil=>simp[sizes]
 | cons a l ih=>simp[sizes,ih];omega
theorem WQ {ks:List Tree} (h:¬ks.length=4):(if ks.length==4 then(ks.headD default).n.text else[])=[]:=by
 rw[if_neg (by simpa using h)]
theorem Ur {ks:List Tree} (h:ks.length=4) {tl:Tree} {lt:Bytes} (htl:ks[0]? = some tl∧tl.n.text=lt):(if ks.length==4 then(ks.headD default).n.text else[])=lt:=by
 rw[if_pos (by simpa using h)];cases ks with
 | nil=>cases htl.1
 | cons a l =>
  obtain⟨h1,h2⟩:=htl
  obtain rfl:a=tl:=by simpa using h1
  exact h2
end Ck
namespace Go.Proofs.YtoomapkcoibmhaaGreatDoor
def SM (b4 b6 b10 b12 b15 m:Nat) (v:Value) (X:World):Prop :=
 X.cell? ⟨b10,0,none⟩=some (.func (.func 51) #[] #[.pointer (some ⟨b4,0,none⟩),.pointer (some ⟨b6,0,none⟩)])∧X.cell? ⟨b12,0,none⟩=some v∧X.cell? ⟨b15,0,none⟩=some (.int .i64 (m:Int))
theorem wD {P:Ck.Node→List Tree→Prop}:∀{l:List Tree},(∀t∈l,t.all P)→oH P l
 | [],_=>trivial
 | a::l,h=>⟨h a (by simp),wD (fun t ht=>h t (by simp[ht]))⟩
theorem wE (wc:World) (x:Bytes) (hx:x.length≤maxLen) :
  ∃Cv,(Instr.mapUpdate 64 (.map (some wc.heap.size)) (.string ⟨x.toArray⟩) (.agg #[])).run Tryz.prog (wc.alloc (.map #[] 0))=.ok () Cv∧eP Cv wc.heap.size [x]∧(wc.alloc (.map #[] 0)).grownBy Cv (some wc.heap.size):=by
 have hkey:=uj hx;have hown:=World.ownsMap_made wc Tryz.prog 9 (unitElem (H:=Unit));have hlt:0<maxLen:=by simp[maxLen]
 obtain⟨Cv,h1,h2,h3⟩:=World.ownsMap.update hown l6 Tryz.underlying64 hlt hkey (unitElem_mk (H:=Unit))
 exact⟨Cv,h1,⟨1,_,h2,by simp,FB hown.isMap hx (fun y=>by simp[Maps.has]) _⟩,h3⟩
end Go.Proofs.YtoomapkcoibmhaaGreatDoor
end
section
open Go Go.Proofs Go.RowKit Go.Shelf Go.Maps Ck
namespace Go.Proofs.YtoomapkcoibmhaaGreatDoor
attribute [local go_sem] Oper.semAt_some
def Ns (t:Tree):Prop:=(t.n.kind=2∨t.n.kind=3)∧oH sK t.ks∧(t.n.kind=3→t.ks≠[])∧∀m∈t.row,L8 m
abbrev FV (S:lH) (N:Nat):Prop:=∀(T:Tree) (rest:List Ck.Node) (i d k B:Nat) (s:CS) (ms:List Nat) (w:World),T.size≤N→S.R.drop i=T.row++rest→Ns T→Bd s B→B+T.size≤1099511627776→s.scopes=[]→s.loops=[]→d≤257→k≤1099511627776→CK S s ms w →
 Calls Tryz.prog 29 #[.pointer (some ⟨S.bp,0,none⟩),.int .i64 i,.int .i64 d,.int .i64 k] w (iq S ms w (jg S.E T d k s))
theorem Ql (E:Env) (t:Tree) (d k B:Nat) (s s':CS) (hT:Ns t) (hb:Bd s B) (h:jg E t d k s=.ok s'):Bd s' (B+t.size)∧s'.loops=[]:=by
 obtain⟨n,ks⟩:=t
 obtain⟨hk,hA,_,_⟩:=hT
 have hA:oH sK ks:=hA
 have hk2:(n.kind==2||n.kind==3)=true:=by
  rcases hk with hk|hk
  ·have hk:n.kind=2:=hk;simp[hk]
  ·have hk:n.kind=3:=hk;simp[hk]
 unfold jg at h;obtain⟨_,_,h⟩:=yM h
 rw[if_pos hk2]at h
 obtain⟨_,_,h⟩:=yM h
 obtain⟨s1,h1,h⟩:=yM h
 have hb1:Bd ⟨[]::s.scopes,[],n.text::s.ahead⟩ (B+1):=⟨fun l hl=>by
  rcases List.mem_cons.1 hl with rfl|hl
  ·simp
  ·exact Nat.le_succ_of_le (hb.sc l hl),by have:=hb.ah;simp;omega⟩
 obtain⟨g1,g2⟩:=nS E ks (d+1) 0 (B+1) _ s1 (oG (fun _ _ h=>h.1) ks hA) hb1 h1
 have hz:(Tree.mk n ks).size=sizes ks+1:=by simp[Tree.size]
 have fin:s'={ s1 with scopes:=s1.scopes.tail }→Bd s' (B+(Tree.mk n ks).size)∧s'.loops=[]:=fun e=>by
  subst e;exact⟨(g1.pop).mono (by omega),g2⟩
 split at h
 ·obtain⟨_,_,h⟩:=yM h
  obtain⟨_,_,h⟩:=yM h
  cases h;exact fin rfl
 ·cases h;exact fin rfl
section
variable {S:lH} {N:Nat}
theorem Nt (ih:FV S N) (ks:List Tree) (rest:List Ck.Node) (p d B:Nat) (s:CS) (ms:List Nat) (w:World) (g' sc b4 b6:Nat) (sa:Option Addr) (cur:Array Value)
  (hs:sizes ks≤N) (hT:S.R.drop p=rows ks++rest) (hA:∀t∈ks,Ns t) (hms:s.scopes=[]) (hb:Bd s B) (h1:s.scopes.length≤d+1) (h2:s.loops=[]) (hd:d+1≤257) (hK:CK S s ms w) (hpl:B+sizes ks≤1099511627776)
  (hg:au w g' cur 3) (hc:∀(j q:Nat),(kpos p ks)[j]? = some q→cur[j]? = some (Value.int .i64 (q:Int))) (hsa:ks≠[]→sa=some ⟨g',0,none⟩)
  (h4:au w b4 #[.pointer (some ⟨S.bp,0,none⟩)] 45) (h6:au w b6 #[.int .i64 (d:Int)] 3) :
  Calls Tryz.prog 51 #[.slice sa ks.length sc,.pointer (some ⟨b4,0,none⟩),.pointer (some ⟨b6,0,none⟩)] w (iq S ms w (gu S.E ks (d+1) 0 s)):=by
 obtain⟨r,hr⟩:∃r,Hid (gu S.E ks (d+1) 0 s=r):=⟨_,rfl⟩
 rw[hr.out]
 have hl:(ks.length:Int)≤1099511627776:=by
  have:=eZ ks
  have h4:=bP ks;omega
 have hml:=hK.sets.length;obtain⟨kc,kz,aH,kb⟩:=h4.rules
 go_enter Tryz.func51,Tryz.ntmps51;have HC:=Lib.hid hc;have HA:=Lib.hid hA;have HT:=Lib.hid hT;have HSA:=Lib.hid hsa;have dz:Hid (∃s',CK S s' ms w∧Ct w w∧Bd s' (B+sizes (ks.take 0))∧s'.scopes.length=s.scopes.length∧s'.loops=[]∧gu S.E (ks.drop 0) (d+1) 0 s'=r):=⟨s,hK,Ct.refl _,by simpa[sizes]using hb,rfl,h2,by simpa using hr.out⟩
 clear hK hb hc hA hT hsa;go_wp2
 go_loopw [4,5,8] (fun _x _y j wr=>∃q:Nat,j=.int .i64 q∧q≤ks.length∧Hid (∃s',CK S s' ms wr∧Ct w wr∧Bd s' (B+sizes (ks.take q))∧s'.scopes.length=s.scopes.length∧s'.loops=[]∧gu S.E (ks.drop q) (d+1) q s'=r)) (fun _ _ j _=>ks.length-(intOf j).toNat)
 case atStart=>exact⟨0,rfl,Nat.zero_le _,dz⟩
 case round =>
  obtain⟨q,rfl,hq1,hq⟩:=hrel
  obtain⟨s',k1,k2,k3,k4,k5,k6⟩:=hq.out
  clear hq;by_cases hlt:q<ks.length
  ·obtain⟨t,ht⟩:∃t,ks[q]? = some t:=⟨_,List.getElem?_eq_getElem hlt⟩
   have hsplit:ks.drop q=t::ks.drop (q+1):=by
    rw[List.drop_eq_getElem_cons hlt];rw[List.getElem?_eq_getElem hlt]at ht
    rw[Option.some.inj ht]
   obtain⟨p',rest',hp,wS⟩:=jO HT.out ht
   obtain rfl:=HSA.out (by rintro rfl;simp at hlt);have hgr:=k2.kept g' cur _ (by decide) (by decide) (by decide) hg;have hcell:wr.cell? ⟨g',q,none⟩=some (.int .i64 (p':Int)):=(hgr.rules.1 q).trans (HC.out q p' hp);have h4r:=k2.kept b4 _ _ (by decide) (by decide) (by decide) h4;have h6r:=k2.kept b6 _ _ (by decide) (by decide) (by decide) h6;obtain⟨xc,xz,Nc,xb⟩:=h4r.rules
   obtain⟨yc,yz,wm,yb⟩:=h6r.rules
   rw[hsplit]at k6
   unfold gu at k6;have hst:=Bj ht;have hsa:=jH ht;have hle:=qg ks (q+1);have Cx:Ns t:=HA.out t (List.mem_of_getElem? ht);have hcall:=ih t rest' p' (d+1) q (B+sizes (ks.take q)) s' ms wr (by omega) wS Cx k3 (by omega) (List.eq_nil_of_length_eq_zero (by rw[k4,hms];rfl)) k5 hd (by omega) k1;have HKK:=Lib.hid (And.intro k3 (And.intro k4 (And.intro k5 (And.intro k6 k2))));have HA2:=Lib.hid Cx;have HST:=Lib.hid hst;have HTt:=Lib.hid ht;clear k1 k3 k4 k5 k6 hsplit hp wS Cx hst
   go_wp2_with (fail)
   go_at_call 29
   refine hcall.mono ?_;rintro e w5 (⟨f,hf,rfl,hlow⟩|⟨s2,hf,rfl,K2,C2⟩)
   ·exact⟨rfl,.inl ⟨f,by rw[←HKK.out.2.2.2.1,hf];rfl,rfl,hlow⟩⟩
   ·go_wp2
    go_roundw
    case rel =>
     refine⟨q+1,by go_num,by omega,s2,K2,HKK.out.2.2.2.2.trans C2,?_,?_,?_,?_⟩
     ·have:=(Ql S.E t (d+1) q _ s' s2 HA2.out HKK.out.1 hf).1
      rw[HST.out,←Nat.add_assoc];exact this
     ·rw[←K2.sets.length];exact hml
     ·exact(Ql S.E t (d+1) q _ s' s2 HA2.out HKK.out.1 hf).2
     ·have h9:=HKK.out.2.2.2.1;rw[hf]at h9;exact h9
    case measure=>simp[intOf];omega
  ·obtain rfl:q=ks.length:=by omega
   rw[List.drop_length]at k6
   go_wp2
   go_end0
   exact .inr ⟨s',k6.symm,rfl,k1,k2⟩
end
theorem Nu {S:lH} {N:Nat} (ih:FV S N) (n:Ck.Node) (ks:List Tree) (rest:List Ck.Node) (i d k B:Nat) (s:CS) (ms:List Nat) (w:World) (hs:(Tree.mk n ks).size≤N+1) (hT:S.R.drop i=(Tree.mk n ks).row++rest) (hA:∀t∈ks,Ns t) (hb:Bd s B) (hB:B+(Tree.mk n ks).size≤1099511627776) (hsc:s.scopes=[]) (hlp:s.loops=[]) (hd:d≤257) (hkk:k≤1099511627776) (hK:CK S s ms w)
  (t2:(n.kind==2)=false) (t3:(n.kind==3)=false) (t4:(n.kind==4)=false) (t5:(n.kind==5)=false) (t6:(n.kind==6)=false) (t10:(n.kind==10)=false) (t11:(n.kind==11)=false) (t12:(n.kind==12)=false) (t25:(n.kind==25)=false) (t7:(n.kind==7)=false) (t23:(n.kind==23)=false) (uw:(n.kind==13)=false) (uy:(n.kind==14)=false) :
  Calls Tryz.prog 29 #[.pointer (some ⟨S.bp,0,none⟩),.int .i64 (i:Int),.int .i64 (d:Int),.int .i64 (k:Int)] w (iq S ms w (jg S.E (Tree.mk n ks) d k s)):=by
 obtain⟨r,hr⟩:∃r,Hid (jg S.E (Tree.mk n ks) d k s=r):=⟨_,rfl⟩
 rw[hr.out]
 have HM:Hid ((need (decide (256<d)) 71 n.at' >>= fun _=>gu S.E ks (d+1) 0 s)=r):=by
  have h1:=hr.out;unfold jg at h1;simp only[t2,t3,t4,t5,t6,t10,t11,t12,t25,t7,t23,uw,uy,Bool.or_false,Bool.false_or,Bool.or_true,Bool.true_or,Bool.or_self,Bool.false_eq_true,if_true,if_false,reduceIte]at h1;exact h1
 clear hr;obtain⟨hrow,aD⟩:=bJ hT
 have o9:(Tree.mk n ks).size=sizes ks+1:=by simp[Tree.size]
 have hkl:ks.length≤sizes ks:=by rw[←bP];exact eZ ks
 have hil:(i:Int)<S.R.length:=by have:=(List.getElem?_eq_some_iff.1 aD).1;omega
 have hx:n.text.length≤140737488351232:=(hK.ok _ (List.mem_of_getElem? aD)).text;obtain⟨sv,lv,hb0,_,_⟩:=hK.ex
 obtain⟨rc,rz,bE,rb⟩:=hb0.rules
 have hlim:=hK.lim;have ko:=hK.rat.gl;obtain⟨rP,hgl,uW,n0,n1,n2,n3,n4,n5⟩:=Jg hK aD
 obtain⟨W5,gU⟩:∃X,X=nw S n i d ks w:=⟨_,rfl⟩
 obtain⟨kJ,k4,k5,k6,k8,k9,k10⟩:=gU ▸ npre S n i d ks w
 unfold nw at gU;have gP:=hK.fr kJ;obtain⟨Ko,Kq,hb5,_,_⟩:=gP.ex
 have hk:=dM S.bp S.R rest i S.g S.c n ks hT hlim W5 gP.rat _ hb5 rfl;have hcw:=aQ (S:=S) (ms:=ms) (w:=w) (decide (256<(d:Int))) 71 (ks.length:Int) (w.heap.size+1+1+1) n k8 gP.low HM (by simp;omega);have oJ:=Lib.hid gP;have HT:=Lib.hid hT;have HR:=Lib.hid hrow;have HN:=Lib.hid aD;have HA:=Lib.hid hA;have nI:=Lib.hid kJ;have Kr:=Lib.hid hK;have HB:=Lib.hid hb;clear gP hT hrow aD hA kJ hK hb hb5 HM hb0;have hdi:(d:Int)≤300:=by omega
 have hki:(k:Int)≤1099511627776:=by omega
 go_enter Tryz.func29,Tryz.ntmps29
 go_wp2_with (fail)
 go_region
 go_wp2_with (fail)
 rw[←gU];clear gU rc rz bE rb rP ko hgl uW n0 n1 n2 n3 n4 n5
 go_at_call 50
 refine hcw.mono ?_;clear hcw;rintro e1 w1 (⟨ft,rfl,hout⟩|⟨rfl,rfl,hq1,HM⟩)
 ·exact⟨rfl,hout⟩
 have hd2:d≤256:=by simpa using hq1
 obtain⟨c4,z4,s4,l4⟩:=k4.rules
 obtain⟨c5,z5,s5,l5⟩:=k5.rules
 go_wp2_with (fail)
 go_at_call 31
 refine hk.mono ?_;clear hk c4 z4 s4 l4 c5 z5 s5 l5;rintro e2 w2 ⟨v,rfl,hown,hf2⟩;obtain⟨g',cur,sa,sc,rfl,hgb,hcur,hsa,hcap⟩:=fZ hown (k5.fr hf2 (by simp))
 obtain⟨W,hW⟩:∃X,X=w2.alloc (.cells #[.slice sa ks.length sc] 36):=⟨_,rfl⟩
 have kK:Fr [] w2 W:=by rw[hW];exact(Fr.refl _ _).alloc _
 have aN:Fr [] W5 W:=hf2.trans kK
 have nf:NF S n i d ks w.heap.size (w.heap.size+1) (w.heap.size+1+1) (w.heap.size+1+1+1) (w.heap.size+1+1+1+1) (w.heap.size+1+1+1+1+1) w2.heap.size g' sc sa cur W :=
  ⟨k4.fr aN (by simp),k5.fr aN (by simp),k6.fr aN (by simp),k8.fr aN (by simp),k9.fr aN (by simp),k10.fr aN (by simp),by rw[hW];exact au.new _ _ _,hgb.fr kK (by simp),fun j q hj=>hcur j _ (by simp[gM,hj]),fun hne=>hsa (List.length_pos_iff.2 hne),hcap⟩
 have hKW:=oJ.out.fr aN;have hcW:Ct w W:=Ct.aC (nI.out.trans aN);clear kK aN hgb hcur hsa hown hf2 k4 k5 k6 k8 k9 k10 oJ nI
 go_upto_region 7 with(fail)
 rw[←hW];clear hW;generalize w2.heap.size=b12 at *;obtain⟨c8,z8,s8,l8⟩:=nf.h8.rules
 have vE:=Nt ih ks rest (i+1) d B s ms W g' sc w.heap.size (w.heap.size+1+1) sa cur (by omega) HR.out HA.out hsc HB.out (by rw[hsc];simp) hlp (by omega) hKW (by omega) nf.hg nf.hc nf.hsa nf.h4 nf.h6;obtain⟨c10,Oo,s10,l10⟩:=nf.h10.rules
 obtain⟨c12,z12,s12,Gi⟩:=nf.h12.rules
 go_wp2_with (fail)
 go_at_call 51
 refine vE.mono ?_;rintro e5 w5 ho;rcases ho.last HM hcW with⟨ft,h1,rfl,h3⟩|⟨s2,h1,rfl,K2,C2⟩
 ·exact⟨rfl,.inl ⟨ft,h1,rfl,h3⟩⟩
 ·go_wp2
  go_end0
  exact .inr ⟨s2,h1,rfl,K2,C2⟩
end Go.Proofs.YtoomapkcoibmhaaGreatDoor
end
section
open Go Go.Proofs Go.RowKit Go.Shelf Go.Maps Ck
namespace Go.Proofs.YtoomapkcoibmhaaGreatDoor
mutual
theorem Uu:∀(t:Tree),t.all Gm→4≤t.n.kind→t.all sK
 | .mk n ks,ha,hk=>by
  have hk:4≤n.kind:=hk;obtain⟨h1,h2,h3,h4,h5⟩:=qE ha.1
  refine⟨⟨?_,⟨h3,h1⟩,h4,by omega⟩,FW ks ha.2 ?_⟩
  ·show(n.kind==2||n.kind==3)=false
   simp;omega
  ·intro t ht;exact Qm ha.1 (by omega) t ht
theorem FW:∀(l:List Tree),oH Gm l→(∀t∈l,4≤t.n.kind)→oH sK l
 | [],_,_=>trivial
 | t::l,ha,hk=>⟨Uu t ha.1 (hk t (by simp)),FW l ha.2 (fun u hu=>hk u (by simp[hu]))⟩
end
mutual
theorem Iu:∀(t:Tree),t.all Gm→∀n∈t.row,0≤n.kind∧n.kind≤31
 | .mk m ks,ha,n,hn=>by
  unfold Tree.row at hn;rcases List.mem_cons.1 hn with rfl|hn
  ·have:=qE ha.1
   exact⟨this.2.1,this.1⟩
  ·exact Em ks ha.2 n hn
theorem Em:∀(l:List Tree),oH Gm l→∀n∈rows l,0≤n.kind∧n.kind≤31
 | [],_,n,hn=>by cases hn
 | t::l,ha,n,hn=>by
  unfold rows at hn;rcases List.mem_append.1 hn with hn|hn
  ·exact Iu t ha.1 n hn
  ·exact Em l ha.2 n hn
end
end Go.Proofs.YtoomapkcoibmhaaGreatDoor
end
