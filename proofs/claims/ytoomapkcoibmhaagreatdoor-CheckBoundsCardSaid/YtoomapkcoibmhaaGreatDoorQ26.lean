/- A part of the proof. -/
import Derived.Deep.RegionHeld2
import Derived.Deep.RegionWith
import Derived.Test.YtoomapkcoibmhaaGreatDoorQ22
import Derived.Test.YtoomapkcoibmhaaGreatDoorQ25
set_option maxRecDepth 100000
set_option maxHeartbeats 12800000
set_option linter.all false
section
open Go Go.Proofs Go.RowKit Ck
namespace Go.Proofs.YtoomapkcoibmhaaGreatDoor
section
variable {S:zm}
theorem M9 {β:Type} {x:Bytes} {rest:List Ck.Node} {toks:List Bytes} {k:Unit→Pr β} {r:Option (β × (List Ck.Node × List Bytes))} (h:Hid ((put [x] >>= k) (rest,toks)=some r)):x.length≤1099511627776:=by
 have:=(Tm h).1
 rw[xB,pJ]at this
 unfold wV at this;omega
def Hf (q:gG):Nat→Pr Unit
 | 0=>pure ()
 | m+1=>do
  q.expr
  tQ q m
theorem AU {α γ β δ:Type} {x:Pr α} {f:α→Pr γ} {k:α→γ→Pr δ} {g:δ→Pr β} {st:List Ck.Node × List Bytes} {r:Option (β × (List Ck.Node × List Bytes))} (h:Hid (((x >>= fun y=>f y >>= fun z=>k y z) >>= g) st=some r)):Hid ((x >>= fun y=>f y >>= fun z=>k y z >>= g) st=some r):=by
 have h1:=(vX h).out;show _=_;rw[←h1];simp only[Pr.bind_eq,Pr.bind];cases x st with
 | none=>rfl
 | some o =>
  cases o with
  | none=>rfl
  | some p =>
   obtain⟨y,s1⟩:=p
   simp only;cases f y s1 with
   | none=>rfl
   | some o=>cases o<;>rfl
theorem Pz (s:Bytes):s.length≤(quote s).length:=by
 have h1:∀c,1≤(dA c).length:=fun c=>by
  unfold dA
  repeat (split;· simp)
  simp
 have:∀s:Bytes,s.length≤(s.flatMap dA).length:=by
  intro s
  induction s with
  | nil=>simp
  | cons c s ih=>have:=h1 c;rw[List.flatMap_cons,List.length_append,List.length_cons];omega
 have:=this s
 simp only[quote,List.length_cons,List.length_append,List.length_nil];omega
theorem VU {q:gG} (dO:dG 187 S q.expr) {a:Nat} {toks:List Bytes} {w:World} {r:Option (Unit × (List Ck.Node × List Bytes))} (h:QS S a toks w) (hk:Hid (nk (S.l.drop a)=18)) (HM:Hid (fQ q (S.l.drop a,toks)=some r)) :
  Calls Tryz.prog 187 #[.pointer (some ⟨S.bp,0,none⟩)] w (aI S w aY r):=by
 unfold fQ at HM;have p0:=Pf.refl S.bp w;have fM:=fq HM;clear HM;simp only[hk.out]at fM;have kt:Hid True:=trivial;have d9:=bB (by decide) fM;clear fM;go_enter Tryz.func187,Tryz.ntmps187
 go_wp2_with (first
   | (go_at_call 74;refine(cO h hk kt).mono ?_;rintro e w2 ⟨rfl,h2,uS⟩;have p2:=p0.trans uS;clear kt)
   | (go_at_call 188;refine(aX (jl 18 2) h2 d9).mono ?_;rintro e w3 (⟨rfl,hr,nA⟩|⟨u3,a3,AO,rfl,h3,nA,dW⟩);exact⟨rfl,aI.eD hr (p2.trans nA)⟩;simp only[aY];have p3:=p2.trans nA;clear d9)
   | (go_at_call 218;refine(aX (xG dO [111,114]) h3 (bU dW)).mono ?_;rintro e w4 (⟨rfl,hr,rM⟩|⟨u4,a4,LM,rfl,h4,rM,gW⟩);exact⟨rfl,aI.eD hr (p3.trans rM)⟩;simp only[aY];have p4:=p3.trans rM;clear dW))
 go_end0
 exact aI.ret (y:=()) gW h4 p4
theorem VW {q:gG} (dO:dG 187 S q.expr) {a:Nat} {toks:List Bytes} {w:World} {r:Option (Unit × (List Ck.Node × List Bytes))} (h:QS S a toks w) (hk:Hid (nk (S.l.drop a)=19)) (HM:Hid (fQ q (S.l.drop a,toks)=some r)) :
  Calls Tryz.prog 187 #[.pointer (some ⟨S.bp,0,none⟩)] w (aI S w aY r):=by
 unfold fQ at HM;have p0:=Pf.refl S.bp w;have fM:=fq HM;clear HM;simp only[hk.out]at fM;have kt:Hid True:=trivial;have d9:=bB (by decide) fM;clear fM;go_enter Tryz.func187,Tryz.ntmps187
 go_wp2_with (first
   | (go_at_call 74;refine(cO h hk kt).mono ?_;rintro e w2 ⟨rfl,h2,uS⟩;have p2:=p0.trans uS;clear kt)
   | (go_at_call 188;refine(aX (jl 19 2) h2 d9).mono ?_;rintro e w3 (⟨rfl,hr,nA⟩|⟨u3,a3,AO,rfl,h3,nA,dW⟩);exact⟨rfl,aI.eD hr (p2.trans nA)⟩;simp only[aY];have p3:=p2.trans nA;clear d9)
   | (go_at_call 218;refine(aX (xG dO [97,110,100]) h3 (bU dW)).mono ?_;rintro e w4 (⟨rfl,hr,rM⟩|⟨u4,a4,LM,rfl,h4,rM,gW⟩);exact⟨rfl,aI.eD hr (p3.trans rM)⟩;simp only[aY];have p4:=p3.trans rM;clear dW))
 go_end0
 exact aI.ret (y:=()) gW h4 p4
theorem VX {q:gG} (dO:dG 187 S q.expr) {a:Nat} {toks:List Bytes} {w:World} {r:Option (Unit × (List Ck.Node × List Bytes))} (h:QS S a toks w) (hk:Hid (nk (S.l.drop a)=20)) (HM:Hid (fQ q (S.l.drop a,toks)=some r)) :
  Calls Tryz.prog 187 #[.pointer (some ⟨S.bp,0,none⟩)] w (aI S w aY r):=by
 unfold fQ at HM;have p0:=Pf.refl S.bp w;have fM:=fq HM;clear HM;simp only[hk.out]at fM;have kt:Hid True:=trivial;have d9:=ak (by decide) fM;clear fM;have dD:=bB (by decide) d9;clear d9;go_enter Tryz.func187,Tryz.ntmps187
 go_wp2_with (first
   | (go_at_call 74;refine(cO h hk kt).mono ?_;rintro e w3 ⟨rfl,h3,nA⟩;have p3:=p0.trans nA;clear kt)
   | (go_at_call 188;refine(aX (jl 20 1) h3 dD).mono ?_;rintro e w4 (⟨rfl,hr,rM⟩|⟨u4,a4,LM,rfl,h4,rM,gW⟩);exact⟨rfl,aI.eD hr (p3.trans rM)⟩;simp only[aY];have p4:=p3.trans rM;clear dD)
   | (go_at_call 76;refine(aV (l:=[[40],[110,111,116]]) h4 gW rfl (by simp) (by first|rfl|simp)).mono ?_;rintro e w5 ⟨rfl,h5,sD,gT⟩;have p5:=p4.trans sD;clear gW)
   | (go_at_call 187;refine(aX dO h5 gT).mono ?_;rintro e w6 (⟨rfl,hr,pQ⟩|⟨u6,a6,He,rfl,h6,pQ,iO⟩);exact⟨rfl,aI.eD hr (p5.trans pQ)⟩;simp only[aY];have p6:=p5.trans pQ;clear gT)
   | (go_at_call 76;refine(aV (l:=[[41]]) h6 (bU iO) rfl (by simp) (by first|rfl|simp)).mono ?_;rintro e w7 ⟨rfl,h7,oO,kV⟩;have p7:=p6.trans oO;clear iO))
 go_end0
 exact aI.ret (y:=()) kV h7 p7
theorem VY {q:gG} (dO:dG 187 S q.expr) {a:Nat} {toks:List Bytes} {w:World} {r:Option (Unit × (List Ck.Node × List Bytes))} (h:QS S a toks w) (hk:Hid (nk (S.l.drop a)=21)) (HM:Hid (fQ q (S.l.drop a,toks)=some r)) :
  Calls Tryz.prog 187 #[.pointer (some ⟨S.bp,0,none⟩)] w (aI S w aY r):=by
 unfold fQ at HM;have p0:=Pf.refl S.bp w;have fM:=fq HM;clear HM;simp only[hk.out]at fM;have kt:Hid True:=trivial;have d9:=ak (by decide) fM;clear fM;have dD:=ak (by decide) d9;clear d9;have dW:=bB (by decide) dD;clear dD;go_enter Tryz.func187,Tryz.ntmps187
 go_upto_region 18 with(first
   | (go_at_call 74;refine(cO h hk kt).mono ?_;rintro e w4 ⟨rfl,h4,rM⟩;have p4:=p0.trans rM;clear kt)
   | (go_at_call 75;refine(kH h4 dW).mono ?_;rintro e w5 (⟨rfl,hr,sD⟩|⟨n,a5,rfl,abk,hk5,h5,sD,gT⟩);exact⟨rfl,aI.eD hr (p4.trans sD)⟩;have p5:=p4.trans sD;have ok5:=h5.ok _ abk;clear dW;have bn:=au.new w5 #[.int .i64 n.kind,.int .i64 n.at',.int .i64 n.kids,.string ⟨n.text.toArray⟩,.int .i64 n.int,.int .u64 n.bits] 40;obtain⟨iy,iJ,aU,iK⟩:=bn.rules;have bZ:w5.heap.size≠S.bp:=(by have:=h5.lt;omega);have h6:=h5.alloc (.cells #[.int .i64 n.kind,.int .i64 n.at',.int .i64 n.kids,.string ⟨n.text.toArray⟩,.int .i64 n.int,.int .u64 n.bits] 40);have p6:=p5.trans (QS.yJ h5 ((Fr.refl _ _).alloc (.cells #[.int .i64 n.kind,.int .i64 n.at',.int .i64 n.kids,.string ⟨n.text.toArray⟩,.int .i64 n.int,.int .u64 n.bits] 40)))))
 obtain⟨bx,hbx⟩:∃b,b=w5.heap.size:=⟨_,rfl⟩
 rw[←hbx]at iy ⊢
 have HBX:=Lib.hid hbx;have bx5:=bn;rw[←hbx]at bx5
 clear hbx;have hS:(fun X:World=>X.cell? ⟨bx,2,none⟩=some (.int .i64 n.kids)∧X.cell? ⟨bx,3,none⟩=some (.string ⟨n.text.toArray⟩)) (w5.alloc (.cells #[.int .i64 n.kind,.int .i64 n.at',.int .i64 n.kids,.string ⟨n.text.toArray⟩,.int .i64 n.int,.int .u64 n.bits] 40)).drew:=⟨by rw[World.cell?_drew,iy];rfl,by rw[World.cell?_drew,iy];rfl⟩
 refine wp_region_held (S:=fun X:World=>X.cell? ⟨bx,2,none⟩=some (.int .i64 n.kids)∧X.cell? ⟨bx,3,none⟩=some (.string ⟨n.text.toArray⟩)) (by kernel_rfl) ?_;refine tk 0 (.pointer (some ⟨bx,2,none⟩)) rfl hS (fun X hX=>?_) ?_
 ·go_simp
 simp only[Act.put,acts];refine tk 1 (.int .i64 n.kids) rfl hS (fun X hX=>?_) ?_
 ·obtain⟨hX2,fP⟩:=hX;go_simp
 simp only[Act.put,acts];cases c1:(n.kids==2)
 ·have hrn:=Lib.hid ((dP gT).2 (by simp[c1]));refine tk 2 (.bool false) rfl hS (fun X hX=>?_) ?_
  ·go_simp
  simp only[Act.put,acts];refine tk 3 (.bool false) rfl hS (fun X hX=>?_) ?_
  ·go_simp
  simp only[Act.put,acts];refine tks 4 rfl hS ?_;simp only[Act.put,acts];refine tks 5 rfl hS ?_;simp only[Act.put,acts];refine tks 6 rfl hS ?_;simp only[Act.put,acts];refine tks 7 rfl hS ?_;simp only[Act.put,acts];refine tk 8 (.bool false) rfl hS (fun X hX=>?_) ?_
  ·go_simp
  simp only[Act.put,acts];refine wpAnyH_all (rs:=[9]) (by kernel_rfl) (by simp) ?_;intro i hi;obtain rfl:i=9:=by simpa using hi
  refine wpOp_step rfl (fun K hK=>?_);rw[if_pos (by rfl)];go_simp;refine(jE _).mono ?_
  rintro e w9 ⟨rfl,rfl⟩;exact⟨rfl,aI.eD hrn.out (p6.trans (QS.yJ h6 (Fr.refl _ _).drew))⟩
 ·obtain⟨bq,hbq⟩:∃b:Bool,Hid (b=Ck.binaries.contains n.text):=⟨_,rfl⟩
  have hcon:∀W v,bO W v Ck.binaries→Calls Tryz.prog 61 #[v,.string ⟨n.text.toArray⟩] W (fun e w'=>e=.returned (.bool bq)∧W=w'):=fun W v h=>by rw[hbq.out];exact fJ _ _ _ n.text h (by decide)
  refine tk 2 (.bool true) rfl hS (fun X hX=>?_) ?_
  ·go_simp
  simp only[Act.put,acts];refine tk 3 (.bool true) rfl hS (fun X hX=>?_) ?_
  ·go_simp
  simp only[Act.put,acts];refine tk 5 (.pointer (some ⟨bx,3,none⟩)) rfl hS (fun X hX=>?_) ?_
  ·go_simp
  simp only[Act.put,acts];refine tk 6 (.string ⟨n.text.toArray⟩) rfl hS (fun X hX=>?_) ?_
  ·obtain⟨hX2,fP⟩:=hX;go_simp
  simp only[Act.put,acts];refine wpAnyH_all (rs:=[4]) (by kernel_rfl) (by simp) ?_;intro i hi;obtain rfl:i=4:=by simpa using hi
  refine wpOp_step rfl (fun K hK=>?_);rw[if_pos (by rfl)];go_simp;refine(Fj _).mono ?_
  rintro e w7 ⟨sx,sm,sc,rfl,uU,hss⟩;have bx7:=bx5.drew.fr uU (by simp);have hS7:(fun X:World=>X.cell? ⟨bx,2,none⟩=some (.int .i64 n.kids)∧X.cell? ⟨bx,3,none⟩=some (.string ⟨n.text.toArray⟩)) w7:=⟨by rw[bx7.rules.1];rfl,by rw[bx7.rules.1];rfl⟩
  refine hK _ _ ⟨hS7,?_⟩;clear hK K hS;have hS:=hS7;clear hS7;refine wpAnyH_all (rs:=[7]) (by kernel_rfl) (by simp) ?_;intro i hi;obtain rfl:i=7:=by simpa using hi
  refine wpOp_step rfl (fun K hK=>?_);rw[if_pos (by rfl)];go_simp;refine(hcon _ _ hss).mono ?_
  rintro e w8 ⟨rfl,rfl⟩;refine hK _ _ ⟨hS,?_⟩;clear hK K;refine tk 8 (.bool bq) rfl hS (fun X hX=>?_) ?_
  ·go_simp
  simp only[Act.put,acts];refine wpAnyH_all (rs:=[9]) (by kernel_rfl) (by simp) ?_;intro i hi;obtain rfl:i=9:=by simpa using hi
  refine wpOp_step rfl (fun K hK=>?_);rw[if_pos (by rfl)];go_simp;refine(iY bq _).mono ?_
  rintro e w9 (⟨hb,rfl,rfl⟩|⟨hb,rfl,rfl⟩)
  ·refine hK _ _ ⟨hS,wpAnyH_done (by kernel_rfl) ?_ _⟩;clear hK K;have kV:=(dP gT).1 (by rw[c1,←hbq.out,hb];rfl);clear gT;have h7:=h6.fr ((Fr.refl [] _).drew.trans uU);have p7:=p6.trans (QS.yJ h6 ((Fr.refl [] _).drew.trans uU));have bn:=bx7;obtain⟨iy,iJ,aU,iK⟩:=bn.rules
   have bZ:bx≠S.bp:=by rw[HBX.out];exact bZ
   go_wp2_with (first
     | (go_at_call 218;refine(aX (xG dO n.text) h7 (bU kV)).mono ?_;rintro e w8 (⟨rfl,hr,qy⟩|⟨u8,a8,LP,rfl,h8,qy,lY⟩);exact⟨rfl,aI.eD hr (p7.trans qy)⟩;simp only[aY];have p8:=p7.trans qy;have bn:=QS.bI h7 qy bn (by decide) bZ;obtain⟨iy,iJ,aU,iK⟩:=bn.rules;clear kV))
   go_end0
   exact aI.ret (y:=()) lY h8 p8
  ·have hrn:=(dP gT).2 (by rw[c1,←hbq.out,hb];rfl);exact⟨rfl,aI.eD hrn (p6.trans (QS.yJ h6 ((Fr.refl [] _).drew.trans uU)))⟩
theorem VZ {q:gG} (dO:dG 187 S q.expr) {a:Nat} {toks:List Bytes} {w:World} {r:Option (Unit × (List Ck.Node × List Bytes))} (h:QS S a toks w) (hk:Hid (nk (S.l.drop a)=22)) (HM:Hid (fQ q (S.l.drop a,toks)=some r)) :
  Calls Tryz.prog 187 #[.pointer (some ⟨S.bp,0,none⟩)] w (aI S w aY r):=by
 unfold fQ at HM;have p0:=Pf.refl S.bp w;have fM:=fq HM;clear HM;simp only[hk.out]at fM;have kt:Hid True:=trivial;have d9:=ak (by decide) fM;clear fM;have dD:=ak (by decide) d9;clear d9;have dW:=ak (by decide) dD;clear dD;have gW:=bB (by decide) dW;clear dW;go_enter Tryz.func187,Tryz.ntmps187
 go_upto_region 22 with(first
   | (go_at_call 74;refine(cO h hk kt).mono ?_;rintro e w5 ⟨rfl,h5,sD⟩;have p5:=p0.trans sD;clear kt)
   | (go_at_call 75;refine(kH h5 gW).mono ?_;rintro e w6 (⟨rfl,hr,pQ⟩|⟨n,a6,rfl,abn,hk6,h6,pQ,iO⟩);exact⟨rfl,aI.eD hr (p5.trans pQ)⟩;have p6:=p5.trans pQ;have ok6:=h6.ok _ abn;clear gW;have bn:=au.new w6 #[.int .i64 n.kind,.int .i64 n.at',.int .i64 n.kids,.string ⟨n.text.toArray⟩,.int .i64 n.int,.int .u64 n.bits] 40;obtain⟨iy,iJ,aU,iK⟩:=bn.rules;have bZ:w6.heap.size≠S.bp:=(by have:=h6.lt;omega);have h7:=h6.alloc (.cells #[.int .i64 n.kind,.int .i64 n.at',.int .i64 n.kids,.string ⟨n.text.toArray⟩,.int .i64 n.int,.int .u64 n.bits] 40);have p7:=p6.trans (QS.yJ h6 ((Fr.refl _ _).alloc (.cells #[.int .i64 n.kind,.int .i64 n.at',.int .i64 n.kids,.string ⟨n.text.toArray⟩,.int .i64 n.int,.int .u64 n.bits] 40)))))
 cases c1:(n.kids==1)
 ·have hrn:=Lib.hid ((dP iO).2 (by simp[c1]))
  go_wp2_with (first
    | (go_at_call 48;with_reducible refine(jE _).mono ?_;rintro e w8 ⟨rfl,rfl⟩))
  exact⟨rfl,aI.eD hrn.out p7⟩
 cases c2:(n.text==[45])
 rotate_left
 ·skip
  have lY:=(dP iO).1 (by simp[c1,c2]);clear iO
  go_wp2_with (first
    | (go_at_call 48;with_reducible refine(iX _).mono ?_;rintro e w9 ⟨rfl,rfl⟩)
    | (go_at_call 76;refine(aV (l:=[[40],n.text]) h7 lY rfl (by simp) (by first|rfl|simp)).mono ?_;rintro e Cv ⟨rfl,h10,jd,gN⟩;have sF:=p7.trans jd;have bn:=QS.bI h7 jd bn (by decide) bZ;obtain⟨iy,iJ,aU,iK⟩:=bn.rules;clear lY)
    | (go_at_call 187;refine(aX dO h10 gN).mono ?_;rintro e Kg (⟨rfl,hr,j6⟩|⟨u11,a11,Kh,rfl,h11,j6,fV⟩);exact⟨rfl,aI.eD hr (sF.trans j6)⟩;simp only[aY];have za:=sF.trans j6;have bn:=QS.bI h10 j6 bn (by decide) bZ;obtain⟨iy,iJ,aU,iK⟩:=bn.rules;clear gN)
    | (go_at_call 76;refine(aV (l:=[[41]]) h11 (bU fV) rfl (by simp) (by first|rfl|simp)).mono ?_;rintro e Jd ⟨rfl,h12,iA,iB⟩;have qK:=za.trans iA;have bn:=QS.bI h11 iA bn (by decide) bZ;obtain⟨iy,iJ,aU,iK⟩:=bn.rules;clear fV))
  go_end0
  exact aI.ret (y:=()) iB h12 qK
 cases c3:(n.text==[126])
 rotate_left
 ·skip
  have lY:=(dP iO).1 (by simp[c1,c2,c3]);clear iO
  go_wp2_with (first
    | (go_at_call 48;with_reducible refine(iX _).mono ?_;rintro e w9 ⟨rfl,rfl⟩)
    | (go_at_call 76;refine(aV (l:=[[40],n.text]) h7 lY rfl (by simp) (by first|rfl|simp)).mono ?_;rintro e Cv ⟨rfl,h10,jd,gN⟩;have sF:=p7.trans jd;have bn:=QS.bI h7 jd bn (by decide) bZ;obtain⟨iy,iJ,aU,iK⟩:=bn.rules;clear lY)
    | (go_at_call 187;refine(aX dO h10 gN).mono ?_;rintro e Kg (⟨rfl,hr,j6⟩|⟨u11,a11,Kh,rfl,h11,j6,fV⟩);exact⟨rfl,aI.eD hr (sF.trans j6)⟩;simp only[aY];have za:=sF.trans j6;have bn:=QS.bI h10 j6 bn (by decide) bZ;obtain⟨iy,iJ,aU,iK⟩:=bn.rules;clear gN)
    | (go_at_call 76;refine(aV (l:=[[41]]) h11 (bU fV) rfl (by simp) (by first|rfl|simp)).mono ?_;rintro e Jd ⟨rfl,h12,iA,iB⟩;have qK:=za.trans iA;have bn:=QS.bI h11 iA bn (by decide) bZ;obtain⟨iy,iJ,aU,iK⟩:=bn.rules;clear fV))
  go_end0
  exact aI.ret (y:=()) iB h12 qK
 ·have hrn:=Lib.hid ((dP iO).2 (by simp[c1,c2,c3]))
  go_wp2_with (first
    | (go_at_call 48;with_reducible refine(jE _).mono ?_;rintro e w8 ⟨rfl,rfl⟩))
  exact⟨rfl,aI.eD hrn.out p7⟩
theorem V3 {q:gG} (dO:dG 187 S q.expr) {a:Nat} {toks:List Bytes} {w:World} {r:Option (Unit × (List Ck.Node × List Bytes))} (h:QS S a toks w) (hk:Hid (nk (S.l.drop a)=23)) (HM:Hid (fQ q (S.l.drop a,toks)=some r)) :
  Calls Tryz.prog 187 #[.pointer (some ⟨S.bp,0,none⟩)] w (aI S w aY r):=by
 unfold fQ at HM;have p0:=Pf.refl S.bp w;have fM:=fq HM;clear HM;simp only[hk.out]at fM;have kt:Hid True:=trivial;have d9:=ak (by decide) fM;clear fM;have dD:=ak (by decide) d9;clear d9;have dW:=ak (by decide) dD;clear dD;have gW:=ak (by decide) dW;clear dW;have gT:=bB (by decide) gW;clear gW;go_enter Tryz.func187,Tryz.ntmps187
 go_wp2_with (first
   | (go_at_call 74;refine(cO h hk kt).mono ?_;rintro e w6 ⟨rfl,h6,pQ⟩;have p6:=p0.trans pQ;clear kt)
   | (go_at_call 75;refine(kH h6 gT).mono ?_;rintro e w7 (⟨rfl,hr,oO⟩|⟨n,a7,rfl,abo,hk7,h7,oO,kV⟩);exact⟨rfl,aI.eD hr (p6.trans oO)⟩;have p7:=p6.trans oO;have ok7:=h7.ok _ abo;clear gT;have bn:=au.new w7 #[.int .i64 n.kind,.int .i64 n.at',.int .i64 n.kids,.string ⟨n.text.toArray⟩,.int .i64 n.int,.int .u64 n.bits] 40;obtain⟨iy,iJ,aU,iK⟩:=bn.rules;have bZ:w7.heap.size≠S.bp:=(by have:=h7.lt;omega);have h8:=h7.alloc (.cells #[.int .i64 n.kind,.int .i64 n.at',.int .i64 n.kids,.string ⟨n.text.toArray⟩,.int .i64 n.int,.int .u64 n.bits] 40);have p8:=p7.trans (QS.yJ h7 ((Fr.refl _ _).alloc (.cells #[.int .i64 n.kind,.int .i64 n.at',.int .i64 n.kids,.string ⟨n.text.toArray⟩,.int .i64 n.int,.int .u64 n.bits] 40))))
   | (go_at_call 104;refine(pO h8 ok7.text kV).mono ?_;rintro e w9 (⟨rfl,hr,nR⟩|⟨rfl,h9,nR,lG⟩);exact⟨rfl,aI.eD hr (p8.trans nR)⟩;have p9:=p8.trans nR;have bn:=QS.bI h8 nR bn (by decide) bZ;obtain⟨iy,iJ,aU,iK⟩:=bn.rules;clear kV)
   | (go_at_call 76;refine(aV (l:=[n.text,[40]]) h9 lG rfl (by simp) (by first|rfl|simp)).mono ?_;rintro e Cv ⟨rfl,h10,jd,gN⟩;have sF:=p9.trans jd;have bn:=QS.bI h9 jd bn (by decide) bZ;obtain⟨iy,iJ,aU,iK⟩:=bn.rules;clear lG))
 have hmax:=ok7.kids;obtain⟨N,hN⟩:∃N:Nat,n.kids=(N:Int):=⟨n.kids.toNat,(Int.toNat_of_nonneg hk7).symm⟩
 have V4:Hid ((Hf q N >>= fun _=>put [[41]]) (S.l.drop a7,(toks++[n.text,[40]]))=some r):=by have:=gN;rw[hN]at this;exact this
 rw[hN]at hmax ⊢
 have hH:=h10;have hP:=sF;clear gN hN hk7 ok7
 go_loopg [7,101] N (fun k _v c wr=>∃j:Nat,c=.int .i64 j∧Hid (j+k=N∧∃a toks,QS S a toks wr∧Pf S.bp w wr∧Hid (((if j=0 then Hf q k else tQ q k) >>= fun _=>put [[41]]) (S.l.drop a,toks)=some r)))
 case atStart=>exact⟨0,rfl,by omega,_,_,hH,hP,V4⟩
 case round =>
  clear hH hP V4 bn iy iJ aU iK bZ;obtain⟨j,rfl,hq⟩:=hrel
  obtain⟨hj,a,toks,h,p0,HM⟩:=hq.out
  clear hq;cases gk with
  | zero =>
   have hlt:¬(j:Int)<N:=by omega
   have d9:Hid (put [[41]] (S.l.drop a,toks)=some r):=by have:=HM;split at this<;>exact this
   clear HM
   go_wp2_with (first
     | (go_at_call 76;refine(aV (l:=[[41]]) h (bU d9) rfl (by simp) (by first|rfl|simp)).mono ?_;rintro e w2 ⟨rfl,h2,uS,dD⟩;have p2:=p0.trans uS;clear d9))
   go_end0
   exact aI.ret (y:=()) dD h2 p2
  | succ k =>
   have hlt:(j:Int)<N:=by omega
   by_cases j0:j=0
   ·subst j0;have d9:Hid ((q.expr >>= fun _=>tQ q k >>= fun _=>put [[41]]) (S.l.drop a,toks)=some r):=vX HM;clear HM
    go_wp2_with (first
      | (go_at_call 187;refine(aX dO h d9).mono ?_;rintro e w2 (⟨rfl,hr,uS⟩|⟨u2,a2,Tp,rfl,h2,uS,dD⟩);exact⟨rfl,aI.eD hr (p0.trans uS)⟩;simp only[aY];have p2:=p0.trans uS;clear d9))
    go_roundg k
    case measure=>omega
    case rel=>exact⟨1,by go_num,by omega,_,_,h2,p2,dD⟩
   ·have hj0:(0:Int)<j:=by omega
    have d9:Hid ((put [[44]] >>= fun _=>q.expr >>= fun _=>tQ q k >>= fun _=>put [[41]]) (S.l.drop a,toks)=some r):=by rw[if_neg j0]at HM;exact AU HM
    clear HM
    go_wp2_with (first
      | (go_at_call 76;refine(aV (l:=[[44]]) h d9 rfl (by simp) (by first|rfl|simp)).mono ?_;rintro e w2 ⟨rfl,h2,uS,dD⟩;have p2:=p0.trans uS;clear d9)
      | (go_at_call 187;refine(aX dO h2 dD).mono ?_;rintro e w3 (⟨rfl,hr,nA⟩|⟨u3,a3,AO,rfl,h3,nA,dW⟩);exact⟨rfl,aI.eD hr (p2.trans nA)⟩;simp only[aY];have p3:=p2.trans nA;clear dD))
    go_roundg k
    case measure=>omega
    case rel=>exact⟨j+1,by go_num,by omega,_,_,h3,p3,by rw[if_neg (by omega)];exact dW⟩
theorem V5 {q:gG} (dO:dG 187 S q.expr) {a:Nat} {toks:List Bytes} {w:World} {r:Option (Unit × (List Ck.Node × List Bytes))} (h:QS S a toks w) (hk:Hid (nk (S.l.drop a)=24)) (HM:Hid (fQ q (S.l.drop a,toks)=some r)) :
  Calls Tryz.prog 187 #[.pointer (some ⟨S.bp,0,none⟩)] w (aI S w aY r):=by
 unfold fQ at HM;have p0:=Pf.refl S.bp w;have fM:=fq HM;clear HM;simp only[hk.out]at fM;have kt:Hid True:=trivial;have d9:=ak (by decide) fM;clear fM;have dD:=ak (by decide) d9;clear d9;have dW:=ak (by decide) dD;clear dD;have gW:=ak (by decide) dW;clear dW;have gT:=ak (by decide) gW;clear gW;have iO:=bB (by decide) gT;clear gT;go_enter Tryz.func187,Tryz.ntmps187
 go_wp2_with (first
   | (go_at_call 74;refine(cO h hk kt).mono ?_;rintro e w7 ⟨rfl,h7,oO⟩;have p7:=p0.trans oO;clear kt)
   | (go_at_call 188;refine(aX (jl 24 2) h7 iO).mono ?_;rintro e w8 (⟨rfl,hr,qy⟩|⟨u8,a8,LP,rfl,h8,qy,lY⟩);exact⟨rfl,aI.eD hr (p7.trans qy)⟩;simp only[aY];have p8:=p7.trans qy;clear iO)
   | (go_at_call 189;refine(aX (vY dO) h8 (bU lY)).mono ?_;rintro e w9 (⟨rfl,hr,nR⟩|⟨u9,a9,toks9,rfl,h9,nR,lG⟩);exact⟨rfl,aI.eD hr (p8.trans nR)⟩;simp only[aY];have p9:=p8.trans nR;clear lY))
 go_end0
 exact aI.ret (y:=()) lG h9 p9
theorem V6 {q:gG} (dO:dG 187 S q.expr) {a:Nat} {toks:List Bytes} {w:World} {r:Option (Unit × (List Ck.Node × List Bytes))} (h:QS S a toks w) (hk:Hid (nk (S.l.drop a)=25)) (HM:Hid (fQ q (S.l.drop a,toks)=some r)) :
  Calls Tryz.prog 187 #[.pointer (some ⟨S.bp,0,none⟩)] w (aI S w aY r):=by
 unfold fQ at HM;have p0:=Pf.refl S.bp w;have fM:=fq HM;clear HM;simp only[hk.out]at fM;have kt:Hid True:=trivial;have d9:=ak (by decide) fM;clear fM;have dD:=ak (by decide) d9;clear d9;have dW:=ak (by decide) dD;clear dD;have gW:=ak (by decide) dW;clear dW;have gT:=ak (by decide) gW;clear gW;have iO:=ak (by decide) gT;clear gT;have kV:=bB (by decide) iO;clear iO;go_enter Tryz.func187,Tryz.ntmps187
 go_wp2_with (first
   | (go_at_call 74;refine(cO h hk kt).mono ?_;rintro e w8 ⟨rfl,h8,qy⟩;have p8:=p0.trans qy;clear kt)
   | (go_at_call 77;refine(aX (kI 25 0) h8 kV).mono ?_;rintro e w9 (⟨rfl,hr,nR⟩|⟨x,a9,toks9,rfl,h9,nR,lG⟩);exact⟨rfl,aI.eD hr (p8.trans nR)⟩;simp only[Fb];have p9:=p8.trans nR;clear kV)
   | (go_at_call 76;refine(aV (l:=[x]) h9 (bU lG) rfl (by simp) (by first|rfl|simp)).mono ?_;rintro e Cv ⟨rfl,h10,jd,gN⟩;have sF:=p9.trans jd;clear lG))
 go_end0
 exact aI.ret (y:=()) gN h10 sF
theorem V7 {q:gG} (dO:dG 187 S q.expr) {a:Nat} {toks:List Bytes} {w:World} {r:Option (Unit × (List Ck.Node × List Bytes))} (h:QS S a toks w) (hk:Hid (nk (S.l.drop a)=26)) (HM:Hid (fQ q (S.l.drop a,toks)=some r)) :
  Calls Tryz.prog 187 #[.pointer (some ⟨S.bp,0,none⟩)] w (aI S w aY r):=by
 unfold fQ at HM;have p0:=Pf.refl S.bp w;have fM:=fq HM;clear HM;simp only[hk.out]at fM;have kt:Hid True:=trivial;have d9:=ak (by decide) fM;clear fM;have dD:=ak (by decide) d9;clear d9;have dW:=ak (by decide) dD;clear dD;have gW:=ak (by decide) dW;clear dW;have gT:=ak (by decide) gW;clear gW;have iO:=ak (by decide) gT;clear gT;have kV:=ak (by decide) iO;clear iO;have lY:=bB (by decide) kV;clear kV;go_enter Tryz.func187,Tryz.ntmps187
 go_upto_region 44 with(first
   | (go_at_call 74;refine(cO h hk kt).mono ?_;rintro e w9 ⟨rfl,h9,nR⟩;have p9:=p0.trans nR;clear kt)
   | (go_at_call 75;refine(kH h9 lY).mono ?_;rintro e Cv (⟨rfl,hr,jd⟩|⟨n,a10,rfl,V8,hk10,h10,jd,gN⟩);exact⟨rfl,aI.eD hr (p9.trans jd)⟩;have sF:=p9.trans jd;have V9:=h10.ok _ V8;clear lY;have bn:=au.new Cv #[.int .i64 n.kind,.int .i64 n.at',.int .i64 n.kids,.string ⟨n.text.toArray⟩,.int .i64 n.int,.int .u64 n.bits] 40;obtain⟨iy,iJ,aU,iK⟩:=bn.rules;have bZ:Cv.heap.size≠S.bp:=(by have:=h10.lt;omega);have h11:=h10.alloc (.cells #[.int .i64 n.kind,.int .i64 n.at',.int .i64 n.kids,.string ⟨n.text.toArray⟩,.int .i64 n.int,.int .u64 n.bits] 40);have za:=sF.trans (QS.yJ h10 ((Fr.refl _ _).alloc (.cells #[.int .i64 n.kind,.int .i64 n.at',.int .i64 n.kids,.string ⟨n.text.toArray⟩,.int .i64 n.int,.int .u64 n.bits] 40)))))
 cases c1:(n.kids==0)
 ·have hrn:=Lib.hid ((dP gN).2 (by simp[c1]))
  go_wp2_with (first
    | (go_at_call 48;with_reducible refine(jE _).mono ?_;rintro e Jd ⟨rfl,rfl⟩))
  exact⟨rfl,aI.eD hrn.out za⟩
 by_cases c2:0≤n.int
 ·skip
  have iB:=(dP gN).1 (by simp[c1,c2]);clear gN
  go_wp2_with (first
    | (go_at_call 48;with_reducible refine(iX _).mono ?_;rintro e Rf ⟨rfl,rfl⟩)
    | (go_at_call 220;refine(qY n.int _ h11.vars V9.JK V9.JL).mono ?_;rintro e M8 ⟨rfl,Wd⟩;have xJ:=h11.fr Wd;have iI:=QS.yJ h11 Wd;have Cw:=za.trans iI;have bn:=QS.bI h11 iI bn (by decide) bZ;obtain⟨iy,iJ,aU,iK⟩:=bn.rules)
    | (go_at_call 76;refine(aV (l:=[EF n.int]) xJ (bU iB) rfl (by simp) (by first|rfl|simp)).mono ?_;rintro e RP ⟨rfl,mW,lu,uT⟩;have Fx:=Cw.trans lu;have bn:=QS.bI xJ lu bn (by decide) bZ;obtain⟨iy,iJ,aU,iK⟩:=bn.rules;clear iB))
  go_end0
  exact aI.ret (y:=()) uT mW Fx
 ·have hrn:=Lib.hid ((dP gN).2 (by simp[c1,c2]));have c3:n.int<0:=by omega
  go_wp2_with (first
    | (go_at_call 48;with_reducible refine(jE _).mono ?_;rintro e Jd ⟨rfl,rfl⟩))
  exact⟨rfl,aI.eD hrn.out za⟩
theorem Wh {q:gG} (dO:dG 187 S q.expr) {a:Nat} {toks:List Bytes} {w:World} {r:Option (Unit × (List Ck.Node × List Bytes))} (h:QS S a toks w) (hk:Hid (nk (S.l.drop a)=27)) (HM:Hid (fQ q (S.l.drop a,toks)=some r)) :
  Calls Tryz.prog 187 #[.pointer (some ⟨S.bp,0,none⟩)] w (aI S w aY r):=by
 unfold fQ at HM;have p0:=Pf.refl S.bp w;have fM:=fq HM;clear HM;simp only[hk.out]at fM;have kt:Hid True:=trivial;have d9:=ak (by decide) fM;clear fM;have dD:=ak (by decide) d9;clear d9;have dW:=ak (by decide) dD;clear dD;have gW:=ak (by decide) dW;clear dW;have gT:=ak (by decide) gW;clear gW;have iO:=ak (by decide) gT;clear gT;have kV:=ak (by decide) iO;clear iO;have lY:=ak (by decide) kV;clear kV;have lG:=bB (by decide) lY;clear lY;go_enter Tryz.func187,Tryz.ntmps187
 go_upto_region 48 with(first
   | (go_at_call 74;refine(cO h hk kt).mono ?_;rintro e Cv ⟨rfl,h10,jd⟩;have sF:=p0.trans jd;clear kt)
   | (go_at_call 75;refine(kH h10 lG).mono ?_;rintro e Kg (⟨rfl,hr,j6⟩|⟨n,a11,rfl,Wi,aef,h11,j6,fV⟩);exact⟨rfl,aI.eD hr (sF.trans j6)⟩;have za:=sF.trans j6;have RQ:=h11.ok _ Wi;clear lG;have bn:=au.new Kg #[.int .i64 n.kind,.int .i64 n.at',.int .i64 n.kids,.string ⟨n.text.toArray⟩,.int .i64 n.int,.int .u64 n.bits] 40;obtain⟨iy,iJ,aU,iK⟩:=bn.rules;have bZ:Kg.heap.size≠S.bp:=(by have:=h11.lt;omega);have h12:=h11.alloc (.cells #[.int .i64 n.kind,.int .i64 n.at',.int .i64 n.kids,.string ⟨n.text.toArray⟩,.int .i64 n.int,.int .u64 n.bits] 40);have qK:=za.trans (QS.yJ h11 ((Fr.refl _ _).alloc (.cells #[.int .i64 n.kind,.int .i64 n.at',.int .i64 n.kids,.string ⟨n.text.toArray⟩,.int .i64 n.int,.int .u64 n.bits] 40)))))
 cases c1:(n.kids==0)
 ·have hrn:=Lib.hid ((dP fV).2 (by simp[c1]))
  go_wp2_with (first
    | (go_at_call 48;with_reducible refine(jE _).mono ?_;rintro e Rf ⟨rfl,rfl⟩))
  exact⟨rfl,aI.eD hrn.out qK⟩
 by_cases c2:n.bits≤9218868437227405312
 ·skip
  have jr:=(dP fV).1 (by simp[c1,c2,oQ]);clear fV
  go_wp2_with (first
    | (go_at_call 48;with_reducible refine(iX _).mono ?_;rintro e M8 ⟨rfl,rfl⟩)
    | (go_at_call 221;refine(vW n.bits _ h12.vars RQ.Al RQ.Am).mono ?_;rintro e RP ⟨rfl,Hg⟩;have mW:=h12.fr Hg;have lu:=QS.yJ h12 Hg;have Fx:=qK.trans lu;have bn:=QS.bI h12 lu bn (by decide) bZ;obtain⟨iy,iJ,aU,iK⟩:=bn.rules)
    | (go_at_call 76;refine(aV (l:=[iQ n.bits.toNat]) mW (bU jr) rfl (by simp) (by first|rfl|simp)).mono ?_;rintro e w16 ⟨rfl,h16,vZ,Fy⟩;have p16:=Fx.trans vZ;have bn:=QS.bI mW vZ bn (by decide) bZ;obtain⟨iy,iJ,aU,iK⟩:=bn.rules;clear jr))
  go_end0
  exact aI.ret (y:=()) Fy h16 p16
 have c2':9218868437227405312<n.bits:=by omega
 cases c3:(n.bits==9221120237041090560)
 ·have hrn:=Lib.hid ((dP fV).2 (by simp[c1,c2,oQ,wT];simpa using c3))
  go_wp2_with (first
    | (go_at_call 48;with_reducible refine(jE _).mono ?_;rintro e Rf ⟨rfl,rfl⟩))
  exact⟨rfl,aI.eD hrn.out qK⟩
 ·skip
  have jr:=(dP fV).1 (by simp[c1,c2,oQ,wT];simpa using c3);clear fV
  go_wp2_with (first
    | (go_at_call 48;with_reducible refine(iX _).mono ?_;rintro e M8 ⟨rfl,rfl⟩)
    | (go_at_call 221;refine(vW n.bits _ h12.vars RQ.Al RQ.Am).mono ?_;rintro e RP ⟨rfl,Hg⟩;have mW:=h12.fr Hg;have lu:=QS.yJ h12 Hg;have Fx:=qK.trans lu;have bn:=QS.bI h12 lu bn (by decide) bZ;obtain⟨iy,iJ,aU,iK⟩:=bn.rules)
    | (go_at_call 76;refine(aV (l:=[iQ n.bits.toNat]) mW (bU jr) rfl (by simp) (by first|rfl|simp)).mono ?_;rintro e w16 ⟨rfl,h16,vZ,Fy⟩;have p16:=Fx.trans vZ;have bn:=QS.bI mW vZ bn (by decide) bZ;obtain⟨iy,iJ,aU,iK⟩:=bn.rules;clear jr))
  go_end0
  exact aI.ret (y:=()) Fy h16 p16
theorem Wj {q:gG} (dO:dG 187 S q.expr) {a:Nat} {toks:List Bytes} {w:World} {r:Option (Unit × (List Ck.Node × List Bytes))} (h:QS S a toks w) (hk:Hid (nk (S.l.drop a)=28)) (HM:Hid (fQ q (S.l.drop a,toks)=some r)) :
  Calls Tryz.prog 187 #[.pointer (some ⟨S.bp,0,none⟩)] w (aI S w aY r):=by
 unfold fQ at HM;have p0:=Pf.refl S.bp w;have fM:=fq HM;clear HM;simp only[hk.out]at fM;have kt:Hid True:=trivial;have d9:=ak (by decide) fM;clear fM;have dD:=ak (by decide) d9;clear d9;have dW:=ak (by decide) dD;clear dD;have gW:=ak (by decide) dW;clear dW;have gT:=ak (by decide) gW;clear gW;have iO:=ak (by decide) gT;clear gT;have kV:=ak (by decide) iO;clear iO;have lY:=ak (by decide) kV;clear kV;have lG:=ak (by decide) lY;clear lY;have gN:=bB (by decide) lG;clear lG;go_enter Tryz.func187,Tryz.ntmps187
 go_wp2_with (first
   | (go_at_call 74;refine(cO h hk kt).mono ?_;rintro e Kg ⟨rfl,h11,j6⟩;have za:=p0.trans j6;clear kt)
   | (go_at_call 75;refine(kH h11 gN).mono ?_;rintro e Jd (⟨rfl,hr,iA⟩|⟨n,a12,rfl,Wm,aeg,h12,iA,iB⟩);exact⟨rfl,aI.eD hr (za.trans iA)⟩;have qK:=za.trans iA;have aeh:=h12.ok _ Wm;clear gN;have bn:=au.new Jd #[.int .i64 n.kind,.int .i64 n.at',.int .i64 n.kids,.string ⟨n.text.toArray⟩,.int .i64 n.int,.int .u64 n.bits] 40;obtain⟨iy,iJ,aU,iK⟩:=bn.rules;have bZ:Jd.heap.size≠S.bp:=(by have:=h12.lt;omega);have D6:=h12.alloc (.cells #[.int .i64 n.kind,.int .i64 n.at',.int .i64 n.kids,.string ⟨n.text.toArray⟩,.int .i64 n.int,.int .u64 n.bits] 40);have C9:=qK.trans (QS.yJ h12 ((Fr.refl _ _).alloc (.cells #[.int .i64 n.kind,.int .i64 n.at',.int .i64 n.kids,.string ⟨n.text.toArray⟩,.int .i64 n.int,.int .u64 n.bits] 40))))
   | (go_at_call 48;refine(iY (n.kids==0) _).mono ?_;rintro e M8 (⟨Ug,rfl,rfl⟩|⟨Ug,rfl,rfl⟩);have lq:=(dP iB).1 Ug;rotate_left;exact⟨rfl,aI.eD ((dP iB).2 Ug) C9⟩;clear iB)
   | (go_at_call 222;refine(MX n.text _ (Nat.le_trans (Pz _) (M9 (bU lq)))).mono ?_;rintro e RP ⟨rfl,Hg⟩;have mW:=D6.fr Hg;have lu:=QS.yJ D6 Hg;have Fx:=C9.trans lu;have bn:=QS.bI D6 lu bn (by decide) bZ;obtain⟨iy,iJ,aU,iK⟩:=bn.rules)
   | (go_at_call 76;refine(aV (l:=[quote n.text]) mW (bU lq) rfl (by simp) (by first|rfl|simp)).mono ?_;rintro e w16 ⟨rfl,h16,vZ,Fy⟩;have p16:=Fx.trans vZ;have bn:=QS.bI mW vZ bn (by decide) bZ;obtain⟨iy,iJ,aU,iK⟩:=bn.rules;clear lq))
 go_end0
 exact aI.ret (y:=()) Fy h16 p16
theorem Wn {q:gG} (dO:dG 187 S q.expr) {a:Nat} {toks:List Bytes} {w:World} {r:Option (Unit × (List Ck.Node × List Bytes))} (h:QS S a toks w) (hk:Hid (nk (S.l.drop a)=29)) (HM:Hid (fQ q (S.l.drop a,toks)=some r)) :
  Calls Tryz.prog 187 #[.pointer (some ⟨S.bp,0,none⟩)] w (aI S w aY r):=by
 unfold fQ at HM;have p0:=Pf.refl S.bp w;have fM:=fq HM;clear HM;simp only[hk.out]at fM;have kt:Hid True:=trivial;have d9:=ak (by decide) fM;clear fM;have dD:=ak (by decide) d9;clear d9;have dW:=ak (by decide) dD;clear dD;have gW:=ak (by decide) dW;clear dW;have gT:=ak (by decide) gW;clear gW;have iO:=ak (by decide) gT;clear gT;have kV:=ak (by decide) iO;clear iO;have lY:=ak (by decide) kV;clear kV;have lG:=ak (by decide) lY;clear lY;have gN:=ak (by decide) lG;clear lG;have fV:=bB (by decide) gN;clear gN;go_enter Tryz.func187,Tryz.ntmps187
 go_wp2_with (first
   | (go_at_call 74;refine(cO h hk kt).mono ?_;rintro e Jd ⟨rfl,h12,iA⟩;have qK:=p0.trans iA;clear kt)
   | (go_at_call 188;refine(aX (jl 29 0) h12 fV).mono ?_;rintro e Rf (⟨rfl,hr,lZ⟩|⟨u13,a13,Kc,rfl,D6,lZ,jr⟩);exact⟨rfl,aI.eD hr (qK.trans lZ)⟩;simp only[aY];have C9:=qK.trans lZ;clear fV)
   | (go_at_call 76;refine(aV (l:=[[116,114,117,101]]) D6 (bU jr) rfl (by simp) (by first|rfl|simp)).mono ?_;rintro e M8 ⟨rfl,xJ,iI,lq⟩;have Cw:=C9.trans iI;clear jr))
 go_end0
 exact aI.ret (y:=()) lq xJ Cw
theorem Wo {q:gG} (dO:dG 187 S q.expr) {a:Nat} {toks:List Bytes} {w:World} {r:Option (Unit × (List Ck.Node × List Bytes))} (h:QS S a toks w) (hk:Hid (nk (S.l.drop a)=30)) (HM:Hid (fQ q (S.l.drop a,toks)=some r)) :
  Calls Tryz.prog 187 #[.pointer (some ⟨S.bp,0,none⟩)] w (aI S w aY r):=by
 unfold fQ at HM;have p0:=Pf.refl S.bp w;have fM:=fq HM;clear HM;simp only[hk.out]at fM;have kt:Hid True:=trivial;have d9:=ak (by decide) fM;clear fM;have dD:=ak (by decide) d9;clear d9;have dW:=ak (by decide) dD;clear dD;have gW:=ak (by decide) dW;clear dW;have gT:=ak (by decide) gW;clear gW;have iO:=ak (by decide) gT;clear gT;have kV:=ak (by decide) iO;clear iO;have lY:=ak (by decide) kV;clear kV;have lG:=ak (by decide) lY;clear lY;have gN:=ak (by decide) lG;clear lG;have fV:=ak (by decide) gN;clear gN;have iB:=bB (by decide) fV;clear fV;go_enter Tryz.func187,Tryz.ntmps187
 go_wp2_with (first
   | (go_at_call 74;refine(cO h hk kt).mono ?_;rintro e Rf ⟨rfl,D6,lZ⟩;have C9:=p0.trans lZ;clear kt)
   | (go_at_call 188;refine(aX (jl 30 0) D6 iB).mono ?_;rintro e M8 (⟨rfl,hr,iI⟩|⟨u14,a14,Ki,rfl,xJ,iI,lq⟩);exact⟨rfl,aI.eD hr (C9.trans iI)⟩;simp only[aY];have Cw:=C9.trans iI;clear iB)
   | (go_at_call 76;refine(aV (l:=[[102,97,108,115,101]]) xJ (bU lq) rfl (by simp) (by first|rfl|simp)).mono ?_;rintro e RP ⟨rfl,mW,lu,uT⟩;have Fx:=Cw.trans lu;clear lq))
 go_end0
 exact aI.ret (y:=()) uT mW Fx
theorem Wp {q:gG} (dO:dG 187 S q.expr) {a:Nat} {toks:List Bytes} {w:World} {r:Option (Unit × (List Ck.Node × List Bytes))} (h:QS S a toks w) {kk:Int} (hk:Hid (nk (S.l.drop a)=kk)) (e18:(kk==18)=false) (e19:(kk==19)=false) (e20:(kk==20)=false) (e21:(kk==21)=false) (e22:(kk==22)=false) (e23:(kk==23)=false) (e24:(kk==24)=false) (e25:(kk==25)=false) (e26:(kk==26)=false) (e27:(kk==27)=false) (e28:(kk==28)=false) (e29:(kk==29)=false) (e30:(kk==30)=false) (HM:Hid (fQ q (S.l.drop a,toks)=some r)) :
  Calls Tryz.prog 187 #[.pointer (some ⟨S.bp,0,none⟩)] w (aI S w aY r):=by
 unfold fQ at HM;have p0:=Pf.refl S.bp w;have fM:=fq HM;clear HM;simp only[hk.out]at fM;have kt:Hid True:=trivial;have d9:=ak (by simp[e18,e19]) fM;clear fM;have dD:=ak (by simp[e20]) d9;clear d9;have dW:=ak (by simp[e21]) dD;clear dD;have gW:=ak (by simp[e22]) dW;clear dW;have gT:=ak (by simp[e23]) gW;clear gW;have iO:=ak (by simp[e24]) gT;clear gT;have kV:=ak (by simp[e25]) iO;clear iO;have lY:=ak (by simp[e26]) kV;clear kV;have lG:=ak (by simp[e27]) lY;clear lY;have gN:=ak (by simp[e28]) lG;clear lG;have fV:=ak (by simp[e29]) gN;clear gN;have iB:=ak (by simp[e30]) fV;clear fV;go_enter Tryz.func187,Tryz.ntmps187
 go_wp2_with (first
   | (go_at_call 74;refine(cO h hk kt).mono ?_;rintro e Rf ⟨rfl,D6,lZ⟩;have C9:=p0.trans lZ;clear kt)
   | (go_at_call 188;refine(aX (jl 31 0) D6 iB).mono ?_;rintro e M8 (⟨rfl,hr,iI⟩|⟨u14,a14,Ki,rfl,xJ,iI,lq⟩);exact⟨rfl,aI.eD hr (C9.trans iI)⟩;simp only[aY];have Cw:=C9.trans iI;clear iB)
   | (go_at_call 76;refine(aV (l:=[[110,105,108]]) xJ (bU lq) rfl (by simp) (by first|rfl|simp)).mono ?_;rintro e RP ⟨rfl,mW,lu,uT⟩;have Fx:=Cw.trans lu;clear lq))
 go_end0
 exact aI.ret (y:=()) uT mW Fx
theorem Na {q:gG} (dO:dG 187 S q.expr):dG 187 S (fQ q):=by
 intro a toks w r h HM;obtain⟨kk,hk⟩:∃kk,Hid (nk (S.l.drop a)=kk):=⟨_,rfl⟩
 cases e18:(kk==18)
 rotate_left
 ·obtain rfl:kk=18:=by simpa using e18
  exact VU dO h hk HM
 cases e19:(kk==19)
 rotate_left
 ·obtain rfl:kk=19:=by simpa using e19
  exact VW dO h hk HM
 cases e20:(kk==20)
 rotate_left
 ·obtain rfl:kk=20:=by simpa using e20
  exact VX dO h hk HM
 cases e21:(kk==21)
 rotate_left
 ·obtain rfl:kk=21:=by simpa using e21
  exact VY dO h hk HM
 cases e22:(kk==22)
 rotate_left
 ·obtain rfl:kk=22:=by simpa using e22
  exact VZ dO h hk HM
 cases e23:(kk==23)
 rotate_left
 ·obtain rfl:kk=23:=by simpa using e23
  exact V3 dO h hk HM
 cases e24:(kk==24)
 rotate_left
 ·obtain rfl:kk=24:=by simpa using e24
  exact V5 dO h hk HM
 cases e25:(kk==25)
 rotate_left
 ·obtain rfl:kk=25:=by simpa using e25
  exact V6 dO h hk HM
 cases e26:(kk==26)
 rotate_left
 ·obtain rfl:kk=26:=by simpa using e26
  exact V7 dO h hk HM
 cases e27:(kk==27)
 rotate_left
 ·obtain rfl:kk=27:=by simpa using e27
  exact Wh dO h hk HM
 cases e28:(kk==28)
 rotate_left
 ·obtain rfl:kk=28:=by simpa using e28
  exact Wj dO h hk HM
 cases e29:(kk==29)
 rotate_left
 ·obtain rfl:kk=29:=by simpa using e29
  exact Wn dO h hk HM
 cases e30:(kk==30)
 rotate_left
 ·obtain rfl:kk=30:=by simpa using e30
  exact Wo dO h hk HM
 exact Wp dO h hk e18 e19 e20 e21 e22 e23 e24 e25 e26 e27 e28 e29 e30 HM
end
section
variable {S:zm}
def AV:Nat→Pr Unit
 | 0=>pure ()
 | m+1=>do
  let s ←jo 4 0
  put [s]
  mq m
theorem PD {α γ δ ε β:Type} {x:Pr α} {f:α→Pr γ} {k:α→γ→Pr δ} {l:α→γ→δ→Pr ε} {g:ε→Pr β} {st:List Ck.Node × List Bytes} {r:Option (β × (List Ck.Node × List Bytes))} (h:Hid (((x >>= fun y=>f y >>= fun z=>k y z >>= fun u=>l y z u) >>= g) st=some r)):Hid ((x >>= fun y=>f y >>= fun z=>k y z >>= fun u=>l y z u >>= g) st=some r):=by
 have h1:=(AU h).out;show _=_;rw[←h1];simp only[Pr.bind_eq,Pr.bind];cases x st with
 | none=>rfl
 | some o =>
  cases o with
  | none=>rfl
  | some p =>
   obtain⟨y,s1⟩:=p
   simp only;cases f y s1 with
   | none=>rfl
   | some o =>
    cases o with
    | none=>rfl
    | some p =>
     obtain⟨z,s2⟩:=p
     simp only;cases k y z s2 with
     | none=>rfl
     | some o=>cases o<;>rfl
theorem Da {q:gG} (ihb:dG 105 S q.block):dG 78 S (kM q):=by
 intro a toks w r h HM;unfold kM at HM;have p0:=Pf.refl S.bp w;go_enter Tryz.func78,Tryz.ntmps78
 go_upto_region 2 with(first
   | (go_at_call 74;refine(zq h HM).mono ?_;rintro e w1 ⟨rfl,h1,xE,d9⟩;have p1:=p0.trans xE;clear HM)
   | (go_at_call 48;refine(iY (nk (S.l.drop a)==3) _).mono ?_;rintro e w2 (⟨hb2,rfl,rfl⟩|⟨hb2,rfl,rfl⟩);have dD:=(dP d9).1 hb2;rotate_left;exact⟨rfl,aI.eD ((dP d9).2 hb2) p1⟩;clear d9)
   | (go_at_call 75;refine(kH h1 dD).mono ?_;rintro e w3 (⟨rfl,hr,nA⟩|⟨n,a3,rfl,M6,hk3,h3,nA,dW⟩);exact⟨rfl,aI.eD hr (p1.trans nA)⟩;have p3:=p1.trans nA;have Tn:=h3.ok _ M6;clear dD;have bn:=au.new w3 #[.int .i64 n.kind,.int .i64 n.at',.int .i64 n.kids,.string ⟨n.text.toArray⟩,.int .i64 n.int,.int .u64 n.bits] 40;obtain⟨iy,iJ,aU,iK⟩:=bn.rules;have bZ:w3.heap.size≠S.bp:=(by have:=h3.lt;omega);have h4:=h3.alloc (.cells #[.int .i64 n.kind,.int .i64 n.at',.int .i64 n.kids,.string ⟨n.text.toArray⟩,.int .i64 n.int,.int .u64 n.bits] 40);have p4:=p3.trans (QS.yJ h3 ((Fr.refl _ _).alloc (.cells #[.int .i64 n.kind,.int .i64 n.at',.int .i64 n.kids,.string ⟨n.text.toArray⟩,.int .i64 n.int,.int .u64 n.bits] 40)))))
 by_cases hpos:0<n.kids;rotate_left
 ·have hrn:=Lib.hid ((dP dW).2 (by simp[hpos]));have hpos':n.kids≤0:=by omega
  go_wp2_with (first
    | (go_at_call 48;with_reducible refine(jE _).mono ?_;rintro e w5 ⟨rfl,rfl⟩))
  exact⟨rfl,aI.eD hrn.out p4⟩
 have gT:=(dP dW).1 (by simp[hpos]);clear dW;have hmax:=Tn.kids
 go_upto_region 4 with(first
   | (go_at_call 48;with_reducible refine(iX _).mono ?_;rintro e w6 ⟨rfl,rfl⟩)
   | (go_at_call 104;refine(pO h4 Tn.text gT).mono ?_;rintro e w7 (⟨rfl,hr,oO⟩|⟨rfl,h7,oO,kV⟩);exact⟨rfl,aI.eD hr (p4.trans oO)⟩;have p7:=p4.trans oO;have bn:=QS.bI h4 oO bn (by decide) bZ;obtain⟨iy,iJ,aU,iK⟩:=bn.rules;clear gT)
   | (go_at_call 76;refine(aV (l:=[[102,110],n.text,[40]]) h7 kV rfl (by simp) (by first|rfl|simp)).mono ?_;rintro e w8 ⟨rfl,h8,qy,lY⟩;have p8:=p7.trans qy;have bn:=QS.bI h7 qy bn (by decide) bZ;obtain⟨iy,iJ,aU,iK⟩:=bn.rules;clear kV))
 obtain⟨N,hN⟩:∃N:Nat,n.kids-1=(N:Int):=⟨(n.kids-1).toNat,(Int.toNat_of_nonneg (by omega)).symm⟩
 have V4:Hid ((AV N >>= fun _=>put [[41]] >>= fun _=>q.block) (S.l.drop a3,(toks++[[102,110],n.text,[40]]))=some r):=by have:=lY;rw[hN]at this;exact this
 have ac6:(N:Int)≤9223372036854775807:=by omega
 have hH:=h8;have hP:=p8;have HN:=Lib.hid hN;clear hN;go_wp2;rw[HN.out];clear lY hk3 Tn HN hmax hpos
 go_loopg [3,23] N (fun k _v c wr=>∃j:Nat,c=.int .i64 j∧Hid (j+k=N∧∃a toks,QS S a toks wr∧Pf S.bp w wr∧Hid (((if j=0 then AV k else mq k) >>= fun _=>put [[41]] >>= fun _=>q.block) (S.l.drop a,toks)=some r)))
 case atStart=>exact⟨0,rfl,by omega,_,_,hH,hP,V4⟩
 case round =>
  clear hH hP V4 bn iy iJ aU iK bZ;obtain⟨j,rfl,hq⟩:=hrel
  obtain⟨hj,a,toks,h,p0,HM⟩:=hq.out
  clear hq;cases gk with
  | zero =>
   have hlt:¬(j:Int)<N:=by omega
   have d9:Hid ((put [[41]] >>= fun _=>q.block) (S.l.drop a,toks)=some r):=by have:=HM;split at this<;>exact this
   clear HM
   go_wp2_with (first
     | (go_at_call 76;refine(aV (l:=[[41]]) h d9 rfl (by simp) (by first|rfl|simp)).mono ?_;rintro e w2 ⟨rfl,h2,uS,dD⟩;have p2:=p0.trans uS;clear d9)
     | (go_at_call 105;refine(aX ihb h2 (bU dD)).mono ?_;rintro e w3 (⟨rfl,hr,nA⟩|⟨u3,a3,AO,rfl,h3,nA,dW⟩);exact⟨rfl,aI.eD hr (p2.trans nA)⟩;simp only[aY];have p3:=p2.trans nA;clear dD))
   go_end0
   exact aI.ret (y:=()) dW h3 p3
  | succ k =>
   have hlt:(j:Int)<N:=by omega
   by_cases j0:j=0
   ·subst j0;have d9:Hid ((jo 4 0 >>= fun s=>put [s] >>= fun _=>mq k >>= fun _=>put [[41]] >>= fun _=>q.block) (S.l.drop a,toks)=some r):=AU HM;clear HM
    go_wp2_with (first
      | (go_at_call 77;refine(aX (kI 4 0) h d9).mono ?_;rintro e w2 (⟨rfl,hr,uS⟩|⟨x,a2,Tp,rfl,h2,uS,dD⟩);exact⟨rfl,aI.eD hr (p0.trans uS)⟩;simp only[Fb];have p2:=p0.trans uS;clear d9)
      | (go_at_call 76;refine(aV (l:=[x]) h2 dD rfl (by simp) (by first|rfl|simp)).mono ?_;rintro e w3 ⟨rfl,h3,nA,dW⟩;have p3:=p2.trans nA;clear dD))
    go_roundg k
    case measure=>omega
    case rel=>exact⟨1,by go_num,by omega,_,_,h3,p3,dW⟩
   ·have hj0:(0:Int)<j:=by omega
    have d9:Hid ((put [[44]] >>= fun _=>jo 4 0 >>= fun s=>put [s] >>= fun _=>mq k >>= fun _=>put [[41]] >>= fun _=>q.block) (S.l.drop a,toks)=some r):=by rw[if_neg j0]at HM;exact PD HM
    clear HM
    go_wp2_with (first
      | (go_at_call 76;refine(aV (l:=[[44]]) h d9 rfl (by simp) (by first|rfl|simp)).mono ?_;rintro e w2 ⟨rfl,h2,uS,dD⟩;have p2:=p0.trans uS;clear d9)
      | (go_at_call 77;refine(aX (kI 4 0) h2 dD).mono ?_;rintro e w3 (⟨rfl,hr,nA⟩|⟨x,a3,AO,rfl,h3,nA,dW⟩);exact⟨rfl,aI.eD hr (p2.trans nA)⟩;simp only[Fb];have p3:=p2.trans nA;clear dD)
      | (go_at_call 76;refine(aV (l:=[x]) h3 dW rfl (by simp) (by first|rfl|simp)).mono ?_;rintro e w4 ⟨rfl,h4,rM,gW⟩;have p4:=p3.trans rM;clear dW))
    go_roundg k
    case measure=>omega
    case rel=>exact⟨j+1,by go_num,by omega,_,_,h4,p4,by rw[if_neg (by omega)];exact gW⟩
theorem Fz {q:gG} (Z9:dG 78 S (kM q)):dG 47 S (jV q):=by
 intro a toks w r h HM;unfold jV at HM;have p0:=Pf.refl S.bp w;go_enter Tryz.func47,Tryz.ntmps47
 go_wp2_with (first
   | (go_at_call 74;refine(zq h HM).mono ?_;rintro e w1 ⟨rfl,h1,xE,d9⟩;have p1:=p0.trans xE;clear HM)
   | (go_at_call 48;refine(iY (nk (S.l.drop a)==1) _).mono ?_;rintro e w2 (⟨hb2,rfl,rfl⟩|⟨hb2,rfl,rfl⟩);have dD:=(dP d9).1 hb2;rotate_left;exact⟨rfl,aI.eD ((dP d9).2 hb2) p1⟩;clear d9)
   | (go_at_call 75;refine(kH h1 dD).mono ?_;rintro e w3 (⟨rfl,hr,nA⟩|⟨n,a3,rfl,M6,hk3,h3,nA,dW⟩);exact⟨rfl,aI.eD hr (p1.trans nA)⟩;have p3:=p1.trans nA;have Tn:=h3.ok _ M6;clear dD))
 have hmax:=Tn.kids;obtain⟨N,hN⟩:∃N:Nat,n.kids=(N:Int):=⟨n.kids.toNat,(Int.toNat_of_nonneg hk3).symm⟩
 rw[hN]at dW hmax ⊢
 simp only[Int.toNat_natCast]at dW;clear hN hk3 Tn M6;have hH:=h3;have hP:=p3;have hM:=dW;clear h p0 h1 h3 p1 p3 xE nA dW hb2
 go_loopg [9] N (fun k c wr=>∃j:Nat,c=.int .i64 j∧Hid (j+k=N∧∃a toks,QS S a toks wr∧Pf S.bp w wr∧Hid (uJ (yV q) k (S.l.drop a,toks)=some r)))
 case atStart=>exact⟨0,rfl,by omega,_,_,hH,hP,hM⟩
 case round =>
  clear hH hP hM;obtain⟨j,rfl,hq⟩:=hrel
  obtain⟨hj,a,toks,h,p0,HM⟩:=hq.out
  clear hq;cases gk with
  | zero =>
   have hlt:¬(j:Int)<N:=by omega
   go_wp2
   go_end0
   exact aI.ret (y:=()) HM h p0
  | succ k =>
   have hlt:(j:Int)<N:=by omega
   have d9:Hid ((yV q >>= fun _=>uJ (yV q) k) (S.l.drop a,toks)=some r):=HM;clear HM;obtain⟨kk,hk,HK⟩:∃kk,Hid (nk (S.l.drop a)=kk)∧nk (S.l.drop a)=kk:=⟨_,rfl,rfl⟩
   unfold yV at d9;have dD:=fq (vX d9);simp only[HK]at dD;clear HK d9;have kt:Hid True:=trivial;cases e2:(kk==2)
   ·have dW:Hid ((kM q >>= fun _=>uJ (yV q) k) (S.l.drop a,toks)=some r):=by have:=dD;rw[if_neg (by simp[e2])]at this;exact this
    clear dD
    go_wp2_with (first
      | (go_at_call 74;refine(cO h hk kt).mono ?_;rintro e w4 ⟨rfl,h4,rM⟩;have p4:=p0.trans rM;clear kt)
      | (go_at_call 78;refine(aX Z9 h4 dW).mono ?_;rintro e w5 (⟨rfl,hr,sD⟩|⟨u5,a5,Px,rfl,h5,sD,gT⟩);exact⟨rfl,aI.eD hr (p4.trans sD)⟩;simp only[aY];have p5:=p4.trans sD;clear dW))
    go_roundg k
    case measure=>omega
    case rel=>exact⟨j+1,by go_num,by omega,_,_,h5,p5,gT⟩
   ·have dW:Hid ((jo 2 0 >>= fun s=>put [[108,101,116],s,[59]] >>= fun _=>uJ (yV q) k) (S.l.drop a,toks)=some r):=by have:=dD;rw[if_pos e2]at this;exact vX this
    clear dD
    go_wp2_with (first
      | (go_at_call 74;refine(cO h hk kt).mono ?_;rintro e w4 ⟨rfl,h4,rM⟩;have p4:=p0.trans rM;clear kt)
      | (go_at_call 77;refine(aX (kI 2 0) h4 dW).mono ?_;rintro e w5 (⟨rfl,hr,sD⟩|⟨x,a5,Px,rfl,h5,sD,gT⟩);exact⟨rfl,aI.eD hr (p4.trans sD)⟩;simp only[Fb];have p5:=p4.trans sD;clear dW)
      | (go_at_call 76;refine(aV (l:=[[108,101,116],x,[59]]) h5 gT rfl (by simp) (by first|rfl|simp)).mono ?_;rintro e w6 ⟨rfl,h6,pQ,iO⟩;have p6:=p5.trans pQ;clear gT))
    go_roundg k
    case measure=>omega
    case rel=>exact⟨j+1,by go_num,by omega,_,_,h6,p6,iO⟩
structure PIH (S:zm) (q:gG):Prop where
 block:dG 105 S q.block
 statement:dG 157 S q.statement
 choice:dG 190 S q.choice
 loop:dG 191 S q.loop
 expr:dG 187 S q.expr
theorem sG {fn:Nat}:dG fn S (Pr.out:Pr Unit):=fun a toks w r _ HM=>by cases HM.out
theorem D7 (S:zm):∀n,PIH S (precs n)
 | 0=>⟨sG,sG,sG,sG,sG⟩
 | n+1=>by
  have h:=D7 S n;exact⟨Ka h.statement,AQ h.expr h.choice h.loop,G9 h.expr h.block h.choice,M7 h.expr h.block,Na h.expr⟩
theorem Kj (S:zm) (n:Nat):dG 47 S (jV (precs n)):=Fz (Da (D7 S n).block)
end
end Go.Proofs.YtoomapkcoibmhaaGreatDoor
end
