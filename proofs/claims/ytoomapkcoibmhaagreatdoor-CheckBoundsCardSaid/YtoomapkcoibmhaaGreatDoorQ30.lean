/- A part of the proof. -/
import Derived.Test.YtoomapkcoibmhaaGreatDoorQ29
set_option maxRecDepth 100000
set_option maxHeartbeats 12800000
set_option linter.all false
section
open Go Go.Proofs Go.RowKit Go.Shelf Go.Maps Ck
namespace Go.Proofs.YtoomapkcoibmhaaGreatDoor
attribute [local go_sem] Oper.semAt_some
theorem kb {a k:Int} (h:a=k) (c:Int):(a==c)=(k==c):=by rw[h]
section
variable {S:lH} {N:Nat}
theorem FH (ih:Ht S N) (n:Ck.Node) (ks:List Tree) (rest:List Ck.Node) (i h:Nat) (w:World) (hs:(Tree.mk n ks).size≤N+1) (hT:S.R.drop i=(Tree.mk n ks).row++rest) (hA:(Tree.mk n ks).all Three) (hh:h+5*(Tree.mk n ks).size≤1000000000000000) (hlim:S.R.length≤1099511627776) (hw:HW S w) (hm:n.kind=21∨n.kind=24∨n.kind=23) :
  Calls Tryz.prog 32 #[.pointer (some ⟨S.bp,0,none⟩),.int .i64 i,.int .i64 h] w fun e w'=>e=.returned (.int .i64 ((Tree.mk n ks).height h:Nat))∧Fr [] w w':=by
 rcases hm with hk|hk|hk
 all_goals
  have h5:=kb hk 5;have h11:=kb hk 11;have h21:=kb hk 21;have Cu:=kb hk 24;have h23:=kb hk 23;have h8:=kb hk 8;simp only[Int.reduceBEq]at h5 h11 h21 Cu h23 h8;clear hk;obtain⟨cs,hb,hcs⟩:=hw.oP
  obtain⟨hrow,aD⟩:=bJ hT
  have hil:(i:Int)<S.R.length:=by have:=(List.getElem?_eq_some_iff.1 aD).1;omega
  have hW1:HW S ((w.alloc (.cells #[.pointer (some ⟨S.bp,0,none⟩)] 45)).alloc (.cells #[.int .i64 h] 3)):=hw.fr (((Fr.refl [] _).alloc _).alloc _) (by simp) (by simp);obtain⟨cs1,hb1,hcs1⟩:=hW1.oP
  have hk:=dM S.bp S.R rest i S.g S.c n ks hT hlim _ hW1.row cs1 hb1 hcs1;have hbc:=(au.new w #[.pointer (some ⟨S.bp,0,none⟩)] 45).alloc (.cells #[.int .i64 h] 3);have Bh:=au.new (w.alloc (.cells #[.pointer (some ⟨S.bp,0,none⟩)] 45)) #[.int .i64 h] 3;simp only[World.size_alloc]at Bh;have HK:=Lib.hid aD;have HT:=Lib.hid hT;have Hw:=Lib.hid hw;have HL:=Lib.hid hlim;have PK:=Lib.hid (((Fr.refl [] w).alloc (.cells #[.pointer (some ⟨S.bp,0,none⟩)] 45)).alloc (.cells #[.int .i64 h] 3));have HW1:=Lib.hid hW1;clear aD hT hw hb hcs hb1 hcs1 hlim;clear hW1;go_enter Tryz.func32,Tryz.ntmps32
  go_wp2_with (first|(go_at_call 31;refine hk.mono ?_;rintro e w1 ⟨v,rfl,hown,hf1⟩;obtain⟨sa,Kk,rfl⟩:=gX hown;obtain⟨mc,mz,zX,mb⟩:=(Bh.fr hf1 (by simp)).rules;obtain⟨cc,cz,PL,cb⟩:=(hbc.fr hf1 (by simp)).rules;obtain⟨cs2,b2,d2⟩:=(HW1.out.fr hf1 (by simp) (by simp)).oP;obtain⟨rc,rz,bE,rb⟩:=b2.rules;have rP:w1.cell? ⟨S.bp,0,none⟩=some (.slice (some ⟨S.g,0,none⟩) S.R.length S.c):=(rc 0).trans d2;have cB:=(HW1.out.fr hf1 (by simp) (by simp)).row.cells i _ HK.out;have n0:w1.cell? ⟨S.g,i*6,none⟩=some (.int .i64 n.kind):=cB 0 (by omega);have n1:w1.cell? ⟨S.g,i*6+1,none⟩=some (.int .i64 n.at'):=cB 1 (by omega);have n2:w1.cell? ⟨S.g,i*6+2,none⟩=some (.int .i64 (ks.length:Int)):=cB 2 (by omega);have n3:w1.cell? ⟨S.g,i*6+3,none⟩=some (.string ⟨n.text.toArray⟩):=cB 3 (by omega);have n4:w1.cell? ⟨S.g,i*6+4,none⟩=some (.int .i64 n.int):=cB 4 (by omega);have n5:w1.cell? ⟨S.g,i*6+5,none⟩=some (.int .u64 n.bits):=cB 5 (by omega);clear rc cB))
  obtain⟨w2,hw2⟩:∃w2,w1.alloc (.cells #[.int .i64 n.kind,.int .i64 n.at',.int .i64 (ks.length:Int),.string ⟨n.text.toArray⟩,.int .i64 n.int,.int .u64 n.bits] 40)=w2:=⟨_,rfl⟩
  rw[hw2];have hf2:Fr [w.heap.size+1] w1 w2:=by rw[←hw2];exact(Fr.refl _ _).alloc _
  have Km:au w2 (w.heap.size+1) #[.int .i64 (h:Int)] 3:=by rw[←hw2];exact(Bh.fr hf1 (by simp)).alloc _
  have RY:au w2 w1.heap.size #[.int .i64 n.kind,.int .i64 n.at',.int .i64 (ks.length:Int),.string ⟨n.text.toArray⟩,.int .i64 n.int,.int .u64 n.bits] 40:=by rw[←hw2];exact au.new _ _ _
  clear hw2;have HM:Hid (∃m,max m (fD (ks.drop 0) (h+0))=max h (fD ks h)∧m≤h+5*(sizes ks+1)∧au w2 (w.heap.size+1) #[.int .i64 (m:Nat)] 3∧Fr [w.heap.size+1] w1 w2∧Fr [w.heap.size+1] w2 w2):=⟨h,by simp,by omega,Km,hf2,Fr.refl _ _⟩
  go_loopw [13,14,106] (fun _x _y j wr=>∃(q:Nat),j=.int .i64 q∧q≤ks.length∧Hid (∃m,max m (fD (ks.drop q) (h+q))=max h (fD ks h)∧m≤h+5*(sizes ks+1)∧au wr (w.heap.size+1) #[.int .i64 (m:Nat)] 3∧Fr [w.heap.size+1] w1 wr∧Fr [w.heap.size+1] w2 wr)) (fun _ _ j _=>ks.length-(intOf j).toNat)
  case atStart=>exact⟨0,rfl,Nat.zero_le _,HM.out⟩
  case round =>
   obtain⟨q,rfl,hq1,hq⟩:=hrel
   obtain⟨m,e1,e2,e3,e4,e5⟩:=hq.out
   clear hq;by_cases hlt:q<ks.length
   ·obtain⟨t,ht⟩:∃t,ks[q]? = some t:=⟨_,List.getElem?_eq_getElem hlt⟩
    have hsplit:ks.drop q=t::ks.drop (q+1):=by
     rw[List.drop_eq_getElem_cons hlt];rw[List.getElem?_eq_getElem hlt]at ht
     rw[Option.some.inj ht]
    obtain⟨p,rest',hp,wS⟩:=jO hrow ht
    obtain⟨g',cap',hv,hgb,hgl⟩:=hown.form (by omega)
    cases hv;have hsz2:=hf1.size;simp at hgb hsz2
    have hcell:wr.cell? ⟨g',q,none⟩=some (.int .i64 (p:Int)):=by
     refine e4.cell ?_ (by simp;omega);rw[hown.cellAt q (by omega)];simp[gM,hp]
    have hbw:=Hw.out.row.gl;obtain⟨Wu,hb3,_⟩:=Hw.out.oP
    have hbl:=hb3.lt;have FE:HW S wr:=(HW1.out.fr hf1 (by simp) (by simp)).fr e4 (by simp;omega) (by simp;omega);obtain⟨cs4,hb4,hc4⟩:=FE.oP
    obtain⟨xc,xz,Nc,xb⟩:=hb4.rules
    have xc0:wr.cell? ⟨S.bp,0,none⟩=some (.slice (some ⟨S.g,0,none⟩) S.R.length S.c):=(xc 0).trans hc4;have uV:au wr w.heap.size #[.pointer (some ⟨S.bp,0,none⟩)] 45:=(hbc.fr hf1 (by simp)).fr e4 (by simp)
    have hpn:S.R[p]? = some { t.n with kids:=(t.ks.length:Int) }:=by
     obtain⟨tn,tk⟩:=t
     exact(bJ wS).2
    have hpl:(p:Int)<S.R.length:=by have:=(List.getElem?_eq_some_iff.1 hpn).1;omega
    have hpk:wr.cell? ⟨S.g,p*6,none⟩=some (.int .i64 t.n.kind):=FE.row.cells p _ hpn 0 (by omega);have hts:=jH ht;have Cx:t.all Three:=dN hA.2 t (List.mem_of_getElem? ht);have o9:(Tree.mk n ks).size=sizes ks+1:=by simp[Tree.size]
    have hup:=sI ih t rest' p (h+q) m (w.heap.size+1) w.heap.size wr (by omega) wS Cx (by omega) (by omega) FE e3 uV;have hle:=fC t (h+q);have hB:max m (fD (ks.drop q) (h+q))=max (max m (t.height (h+q))) (fD (ks.drop (q+1)) (h+q+1)):=by rw[hsplit];simp only[fD];omega
    rw[hB]at e1
    have E1:=Lib.hid e1;have Df:S.bp∉[w.heap.size+1]:=by simp;omega
    have hgn:S.g∉[w.heap.size+1]:=by simp;omega
    have Dh:w.heap.size∉[w.heap.size+1]:=by simp
    clear hsplit hp wS hrow hb3 hb4 Cx e1 hB
    go_wp2_with (first|(go_at_call 64;refine hup.mono ?_;rintro e w5 ⟨rfl,hb5,fF⟩;have PN:=uV.fr fF Dh;obtain⟨yc,yz,wm,yb⟩:=PN.rules;have PO:w5.cell? ⟨S.g,p*6,none⟩=some (.int .i64 t.n.kind):=fF.cell hpk hgn;have Wv:w5.cell? ⟨S.bp,0,none⟩=some (.slice (some ⟨S.g,0,none⟩) S.R.length S.c):=fF.cell xc0 Df))
    go_roundw
    case rel=>exact⟨q+1,by go_num,by omega,max m (t.height (h+q)),by simpa[Nat.add_assoc]using E1.out,by omega,hb5,e4.trans fF,e5.trans fF⟩
    case measure=>simp[intOf];omega
   ·obtain rfl:q=ks.length:=by omega
    obtain⟨kc,kz,aH,kb⟩:=e3.rules
    rw[List.drop_length]at e1
    have LV:max m (h+1)=(Tree.mk n ks).height h:=by
     unfold Tree.height;simp[fD,h5,h11,h21,Cu,h23,h8]at e1 ⊢
     try omega
    have E1:=Lib.hid LV;clear e1 LV;have RZ:=hf1.size;simp at RZ;obtain⟨vc,vz,RB,vb⟩:=(RY.fr e5 (by simp;omega)).rules
    go_wp2;go_ret;exact⟨by rw[←E1.out];first|rfl|(show Ending.returned (Value.int .i64 (max (m:Int) ((h:Int)+1)))=_;congr 2;omega),(((PK.out.trans hf1).then e4 (fun x hx=>.inr (by have:=List.mem_singleton.1 hx;omega)))).blk (.inr (by omega)) _ _⟩
theorem FI (ih:Ht S N) (n:Ck.Node) (ks:List Tree) (rest:List Ck.Node) (i h:Nat) (w:World) (hs:(Tree.mk n ks).size≤N+1) (hT:S.R.drop i=(Tree.mk n ks).row++rest) (hA:(Tree.mk n ks).all Three) (hh:h+5*(Tree.mk n ks).size≤1000000000000000) (hlim:S.R.length≤1099511627776) (hw:HW S w) (hm:n.kind=8) :
  Calls Tryz.prog 32 #[.pointer (some ⟨S.bp,0,none⟩),.int .i64 i,.int .i64 h] w fun e w'=>e=.returned (.int .i64 ((Tree.mk n ks).height h:Nat))∧Fr [] w w':=by
 have hk:=hm;clear hm;have h5:=kb hk 5;have h11:=kb hk 11;have h21:=kb hk 21;have Cu:=kb hk 24;have h23:=kb hk 23;have h8:=kb hk 8;simp only[Int.reduceBEq]at h5 h11 h21 Cu h23 h8;clear hk;obtain⟨cs,hb,hcs⟩:=hw.oP
 obtain⟨hrow,aD⟩:=bJ hT
 have hil:(i:Int)<S.R.length:=by have:=(List.getElem?_eq_some_iff.1 aD).1;omega
 have hW1:HW S ((w.alloc (.cells #[.pointer (some ⟨S.bp,0,none⟩)] 45)).alloc (.cells #[.int .i64 h] 3)):=hw.fr (((Fr.refl [] _).alloc _).alloc _) (by simp) (by simp);obtain⟨cs1,hb1,hcs1⟩:=hW1.oP
 have hk:=dM S.bp S.R rest i S.g S.c n ks hT hlim _ hW1.row cs1 hb1 hcs1;have hbc:=(au.new w #[.pointer (some ⟨S.bp,0,none⟩)] 45).alloc (.cells #[.int .i64 h] 3);have Bh:=au.new (w.alloc (.cells #[.pointer (some ⟨S.bp,0,none⟩)] 45)) #[.int .i64 h] 3;simp only[World.size_alloc]at Bh;have HK:=Lib.hid aD;have HT:=Lib.hid hT;have Hw:=Lib.hid hw;have HL:=Lib.hid hlim;have PK:=Lib.hid (((Fr.refl [] w).alloc (.cells #[.pointer (some ⟨S.bp,0,none⟩)] 45)).alloc (.cells #[.int .i64 h] 3));have HW1:=Lib.hid hW1;clear aD hT hw hb hcs hb1 hcs1 hlim;clear hW1;go_enter Tryz.func32,Tryz.ntmps32
 go_wp2_with (first|(go_at_call 31;refine hk.mono ?_;rintro e w1 ⟨v,rfl,hown,hf1⟩;obtain⟨sa,Kk,rfl⟩:=gX hown;obtain⟨mc,mz,zX,mb⟩:=(Bh.fr hf1 (by simp)).rules;obtain⟨cc,cz,PL,cb⟩:=(hbc.fr hf1 (by simp)).rules;obtain⟨cs2,b2,d2⟩:=(HW1.out.fr hf1 (by simp) (by simp)).oP;obtain⟨rc,rz,bE,rb⟩:=b2.rules;have rP:w1.cell? ⟨S.bp,0,none⟩=some (.slice (some ⟨S.g,0,none⟩) S.R.length S.c):=(rc 0).trans d2;have cB:=(HW1.out.fr hf1 (by simp) (by simp)).row.cells i _ HK.out;have n0:w1.cell? ⟨S.g,i*6,none⟩=some (.int .i64 n.kind):=cB 0 (by omega);have n1:w1.cell? ⟨S.g,i*6+1,none⟩=some (.int .i64 n.at'):=cB 1 (by omega);have n2:w1.cell? ⟨S.g,i*6+2,none⟩=some (.int .i64 (ks.length:Int)):=cB 2 (by omega);have n3:w1.cell? ⟨S.g,i*6+3,none⟩=some (.string ⟨n.text.toArray⟩):=cB 3 (by omega);have n4:w1.cell? ⟨S.g,i*6+4,none⟩=some (.int .i64 n.int):=cB 4 (by omega);have n5:w1.cell? ⟨S.g,i*6+5,none⟩=some (.int .u64 n.bits):=cB 5 (by omega);clear rc cB))
 obtain⟨w2,hw2⟩:∃w2,w1.alloc (.cells #[.int .i64 n.kind,.int .i64 n.at',.int .i64 (ks.length:Int),.string ⟨n.text.toArray⟩,.int .i64 n.int,.int .u64 n.bits] 40)=w2:=⟨_,rfl⟩
 rw[hw2];have hf2:Fr [w.heap.size+1] w1 w2:=by rw[←hw2];exact(Fr.refl _ _).alloc _
 have Km:au w2 (w.heap.size+1) #[.int .i64 (h:Int)] 3:=by rw[←hw2];exact(Bh.fr hf1 (by simp)).alloc _
 have RY:au w2 w1.heap.size #[.int .i64 n.kind,.int .i64 n.at',.int .i64 (ks.length:Int),.string ⟨n.text.toArray⟩,.int .i64 n.int,.int .u64 n.bits] 40:=by rw[←hw2];exact au.new _ _ _
 clear hw2;have HM:Hid (∃m,max m (fD (ks.drop 0) (h+0))=max h (fD ks h)∧m≤h+5*(sizes ks+1)∧au w2 (w.heap.size+1) #[.int .i64 (m:Nat)] 3∧Fr [w.heap.size+1] w1 w2∧Fr [w.heap.size+1] w2 w2):=⟨h,by simp,by omega,Km,hf2,Fr.refl _ _⟩
 go_loopw [13,14,106] (fun _x _y j wr=>∃(q:Nat),j=.int .i64 q∧q≤ks.length∧Hid (∃m,max m (fD (ks.drop q) (h+q))=max h (fD ks h)∧m≤h+5*(sizes ks+1)∧au wr (w.heap.size+1) #[.int .i64 (m:Nat)] 3∧Fr [w.heap.size+1] w1 wr∧Fr [w.heap.size+1] w2 wr)) (fun _ _ j _=>ks.length-(intOf j).toNat)
 case atStart=>exact⟨0,rfl,Nat.zero_le _,HM.out⟩
 case round =>
  obtain⟨q,rfl,hq1,hq⟩:=hrel
  obtain⟨m,e1,e2,e3,e4,e5⟩:=hq.out
  clear hq;by_cases hlt:q<ks.length
  ·obtain⟨t,ht⟩:∃t,ks[q]? = some t:=⟨_,List.getElem?_eq_getElem hlt⟩
   have hsplit:ks.drop q=t::ks.drop (q+1):=by
    rw[List.drop_eq_getElem_cons hlt];rw[List.getElem?_eq_getElem hlt]at ht
    rw[Option.some.inj ht]
   obtain⟨p,rest',hp,wS⟩:=jO hrow ht
   obtain⟨g',cap',hv,hgb,hgl⟩:=hown.form (by omega)
   cases hv;have hsz2:=hf1.size;simp at hgb hsz2
   have hcell:wr.cell? ⟨g',q,none⟩=some (.int .i64 (p:Int)):=by
    refine e4.cell ?_ (by simp;omega);rw[hown.cellAt q (by omega)];simp[gM,hp]
   have hbw:=Hw.out.row.gl;obtain⟨Wu,hb3,_⟩:=Hw.out.oP
   have hbl:=hb3.lt;have FE:HW S wr:=(HW1.out.fr hf1 (by simp) (by simp)).fr e4 (by simp;omega) (by simp;omega);obtain⟨cs4,hb4,hc4⟩:=FE.oP
   obtain⟨xc,xz,Nc,xb⟩:=hb4.rules
   have xc0:wr.cell? ⟨S.bp,0,none⟩=some (.slice (some ⟨S.g,0,none⟩) S.R.length S.c):=(xc 0).trans hc4;have uV:au wr w.heap.size #[.pointer (some ⟨S.bp,0,none⟩)] 45:=(hbc.fr hf1 (by simp)).fr e4 (by simp)
   have hpn:S.R[p]? = some { t.n with kids:=(t.ks.length:Int) }:=by
    obtain⟨tn,tk⟩:=t
    exact(bJ wS).2
   have hpl:(p:Int)<S.R.length:=by have:=(List.getElem?_eq_some_iff.1 hpn).1;omega
   have hpk:wr.cell? ⟨S.g,p*6,none⟩=some (.int .i64 t.n.kind):=FE.row.cells p _ hpn 0 (by omega);have hts:=jH ht;have Cx:t.all Three:=dN hA.2 t (List.mem_of_getElem? ht);have o9:(Tree.mk n ks).size=sizes ks+1:=by simp[Tree.size]
   have hup:=sI ih t rest' p (h+q) m (w.heap.size+1) w.heap.size wr (by omega) wS Cx (by omega) (by omega) FE e3 uV;have hle:=fC t (h+q);have hB:max m (fD (ks.drop q) (h+q))=max (max m (t.height (h+q))) (fD (ks.drop (q+1)) (h+q+1)):=by rw[hsplit];simp only[fD];omega
   rw[hB]at e1
   have E1:=Lib.hid e1;have Df:S.bp∉[w.heap.size+1]:=by simp;omega
   have hgn:S.g∉[w.heap.size+1]:=by simp;omega
   have Dh:w.heap.size∉[w.heap.size+1]:=by simp
   clear hsplit hp wS hrow hb3 hb4 Cx e1 hB
   go_wp2_with (first|(go_at_call 64;refine hup.mono ?_;rintro e w5 ⟨rfl,hb5,fF⟩;have PN:=uV.fr fF Dh;obtain⟨yc,yz,wm,yb⟩:=PN.rules;have PO:w5.cell? ⟨S.g,p*6,none⟩=some (.int .i64 t.n.kind):=fF.cell hpk hgn;have Wv:w5.cell? ⟨S.bp,0,none⟩=some (.slice (some ⟨S.g,0,none⟩) S.R.length S.c):=fF.cell xc0 Df))
   go_roundw
   case rel=>exact⟨q+1,by go_num,by omega,max m (t.height (h+q)),by simpa[Nat.add_assoc]using E1.out,by omega,hb5,e4.trans fF,e5.trans fF⟩
   case measure=>simp[intOf];omega
  ·obtain rfl:q=ks.length:=by omega
   obtain⟨kc,kz,aH,kb⟩:=e3.rules
   rw[List.drop_length]at e1
   have LV:m=(Tree.mk n ks).height h:=by
    unfold Tree.height;simp[fD,h5,h11,h21,Cu,h23,h8]at e1 ⊢
    try omega
   have E1:=Lib.hid LV;clear e1 LV;have RZ:=hf1.size;simp at RZ;obtain⟨vc,vz,RB,vb⟩:=(RY.fr e5 (by simp;omega)).rules
   go_wp2;go_ret;exact⟨by rw[←E1.out];first|rfl|(show Ending.returned (Value.int .i64 (max (m:Int) ((h:Int)+1)))=_;congr 2;omega),((PK.out.trans hf1).then e4 (fun x hx=>.inr (by have:=List.mem_singleton.1 hx;omega)))⟩
theorem FJ (ih:Ht S N) (n:Ck.Node) (ks:List Tree) (rest:List Ck.Node) (i h:Nat) (w:World) (hs:(Tree.mk n ks).size≤N+1) (hT:S.R.drop i=(Tree.mk n ks).row++rest) (hA:(Tree.mk n ks).all Three) (hh:h+5*(Tree.mk n ks).size≤1000000000000000) (hlim:S.R.length≤1099511627776) (hw:HW S w) (hm:n.kind=18∨n.kind=19∨n.kind=20∨n.kind=22∨n.kind=25∨n.kind=26∨n.kind=27∨n.kind=28∨n.kind=29∨n.kind=30∨n.kind=31) :
  Calls Tryz.prog 32 #[.pointer (some ⟨S.bp,0,none⟩),.int .i64 i,.int .i64 h] w fun e w'=>e=.returned (.int .i64 ((Tree.mk n ks).height h:Nat))∧Fr [] w w':=by
 rcases hm with hk|hk|hk|hk|hk|hk|hk|hk|hk|hk|hk
 all_goals
  have h5:=kb hk 5;have h11:=kb hk 11;have h21:=kb hk 21;have Cu:=kb hk 24;have h23:=kb hk 23;have h8:=kb hk 8;have h18:=kb hk 18;have h19:=kb hk 19;have h20:=kb hk 20;have h22:=kb hk 22;have Gh:=kb hk 25;have Ww:=kb hk 26;have h27:=kb hk 27;have Wx:=kb hk 28;have Wy:=kb hk 29;have Wz:=kb hk 30;have h31:=kb hk 31;simp only[Int.reduceBEq]at h5 h11 h21 Cu h23 h8 h18 h19 h20 h22 Gh Ww h27 Wx Wy Wz h31
  try (have hge:25≤n.kind:=by omega)
  clear hk;obtain⟨cs,hb,hcs⟩:=hw.oP
  obtain⟨hrow,aD⟩:=bJ hT
  have hil:(i:Int)<S.R.length:=by have:=(List.getElem?_eq_some_iff.1 aD).1;omega
  have hW1:HW S ((w.alloc (.cells #[.pointer (some ⟨S.bp,0,none⟩)] 45)).alloc (.cells #[.int .i64 h] 3)):=hw.fr (((Fr.refl [] _).alloc _).alloc _) (by simp) (by simp);obtain⟨cs1,hb1,hcs1⟩:=hW1.oP
  have hk:=dM S.bp S.R rest i S.g S.c n ks hT hlim _ hW1.row cs1 hb1 hcs1;have hbc:=(au.new w #[.pointer (some ⟨S.bp,0,none⟩)] 45).alloc (.cells #[.int .i64 h] 3);have Bh:=au.new (w.alloc (.cells #[.pointer (some ⟨S.bp,0,none⟩)] 45)) #[.int .i64 h] 3;simp only[World.size_alloc]at Bh;have HK:=Lib.hid aD;have HT:=Lib.hid hT;have Hw:=Lib.hid hw;have HL:=Lib.hid hlim;have PK:=Lib.hid (((Fr.refl [] w).alloc (.cells #[.pointer (some ⟨S.bp,0,none⟩)] 45)).alloc (.cells #[.int .i64 h] 3));have HW1:=Lib.hid hW1;clear aD hT hw hb hcs hb1 hcs1 hlim;clear hW1;go_enter Tryz.func32,Tryz.ntmps32
  go_wp2_with (first|(go_at_call 31;refine hk.mono ?_;rintro e w1 ⟨v,rfl,hown,hf1⟩;obtain⟨sa,Kk,rfl⟩:=gX hown;obtain⟨mc,mz,zX,mb⟩:=(Bh.fr hf1 (by simp)).rules;obtain⟨cc,cz,PL,cb⟩:=(hbc.fr hf1 (by simp)).rules;obtain⟨cs2,b2,d2⟩:=(HW1.out.fr hf1 (by simp) (by simp)).oP;obtain⟨rc,rz,bE,rb⟩:=b2.rules;have rP:w1.cell? ⟨S.bp,0,none⟩=some (.slice (some ⟨S.g,0,none⟩) S.R.length S.c):=(rc 0).trans d2;have cB:=(HW1.out.fr hf1 (by simp) (by simp)).row.cells i _ HK.out;have n0:w1.cell? ⟨S.g,i*6,none⟩=some (.int .i64 n.kind):=cB 0 (by omega);have n1:w1.cell? ⟨S.g,i*6+1,none⟩=some (.int .i64 n.at'):=cB 1 (by omega);have n2:w1.cell? ⟨S.g,i*6+2,none⟩=some (.int .i64 (ks.length:Int)):=cB 2 (by omega);have n3:w1.cell? ⟨S.g,i*6+3,none⟩=some (.string ⟨n.text.toArray⟩):=cB 3 (by omega);have n4:w1.cell? ⟨S.g,i*6+4,none⟩=some (.int .i64 n.int):=cB 4 (by omega);have n5:w1.cell? ⟨S.g,i*6+5,none⟩=some (.int .u64 n.bits):=cB 5 (by omega);clear rc cB))
  obtain⟨w2,hw2⟩:∃w2,(blk w1 (w.heap.size+1) #[.int .i64 ((h:Int)+1)] 3).alloc (.cells #[.int .i64 n.kind,.int .i64 n.at',.int .i64 (ks.length:Int),.string ⟨n.text.toArray⟩,.int .i64 n.int,.int .u64 n.bits] 40)=w2:=⟨_,rfl⟩
  rw[hw2];have hf2:Fr [w.heap.size+1] w1 w2:=by rw[←hw2];exact((Fr.refl _ _).blk (.inl (by simp)) _ _).alloc _
  have Km:au w2 (w.heap.size+1) #[.int .i64 ((h+1:Nat):Int)] 3:=by rw[←hw2];exact(au.blk (Bh.fr hf1 (by simp)).lt).alloc _
  clear hw2;have HM:Hid (∃m,max m (fE (ks.drop 0) h)=max (h+1) (fE ks h)∧m≤h+5*(sizes ks+1)∧au w2 (w.heap.size+1) #[.int .i64 (m:Nat)] 3∧Fr [w.heap.size+1] w1 w2∧Fr [w.heap.size+1] w2 w2):=⟨h+1,by simp,by omega,Km,hf2,Fr.refl _ _⟩
  go_loopw [16,141] (fun _x j wr=>∃(q:Nat),j=.int .i64 q∧q≤ks.length∧Hid (∃m,max m (fE (ks.drop q) h)=max (h+1) (fE ks h)∧m≤h+5*(sizes ks+1)∧au wr (w.heap.size+1) #[.int .i64 (m:Nat)] 3∧Fr [w.heap.size+1] w1 wr∧Fr [w.heap.size+1] w2 wr)) (fun _ j _=>ks.length-(intOf j).toNat)
  case atStart=>exact⟨0,rfl,Nat.zero_le _,HM.out⟩
  case round =>
   obtain⟨q,rfl,hq1,hq⟩:=hrel
   obtain⟨m,e1,e2,e3,e4,e5⟩:=hq.out
   clear hq;by_cases hlt:q<ks.length
   ·obtain⟨t,ht⟩:∃t,ks[q]? = some t:=⟨_,List.getElem?_eq_getElem hlt⟩
    have hsplit:ks.drop q=t::ks.drop (q+1):=by
     rw[List.drop_eq_getElem_cons hlt];rw[List.getElem?_eq_getElem hlt]at ht
     rw[Option.some.inj ht]
    obtain⟨p,rest',hp,wS⟩:=jO hrow ht
    obtain⟨g',cap',hv,hgb,hgl⟩:=hown.form (by omega)
    cases hv;have hsz2:=hf1.size;simp at hgb hsz2
    have hcell:wr.cell? ⟨g',q,none⟩=some (.int .i64 (p:Int)):=by
     refine e4.cell ?_ (by simp;omega);rw[hown.cellAt q (by omega)];simp[gM,hp]
    have hbw:=Hw.out.row.gl;obtain⟨Wu,hb3,_⟩:=Hw.out.oP
    have hbl:=hb3.lt;have FE:HW S wr:=(HW1.out.fr hf1 (by simp) (by simp)).fr e4 (by simp;omega) (by simp;omega);obtain⟨cs4,hb4,hc4⟩:=FE.oP
    obtain⟨xc,xz,Nc,xb⟩:=hb4.rules
    have xc0:wr.cell? ⟨S.bp,0,none⟩=some (.slice (some ⟨S.g,0,none⟩) S.R.length S.c):=(xc 0).trans hc4;have uV:au wr w.heap.size #[.pointer (some ⟨S.bp,0,none⟩)] 45:=(hbc.fr hf1 (by simp)).fr e4 (by simp)
    have hpn:S.R[p]? = some { t.n with kids:=(t.ks.length:Int) }:=by
     obtain⟨tn,tk⟩:=t
     exact(bJ wS).2
    have hpl:(p:Int)<S.R.length:=by have:=(List.getElem?_eq_some_iff.1 hpn).1;omega
    have hpk:wr.cell? ⟨S.g,p*6,none⟩=some (.int .i64 t.n.kind):=FE.row.cells p _ hpn 0 (by omega);have hts:=jH ht;have Cx:t.all Three:=dN hA.2 t (List.mem_of_getElem? ht);have o9:(Tree.mk n ks).size=sizes ks+1:=by simp[Tree.size]
    have hup:=sI ih t rest' p h m (w.heap.size+1) w.heap.size wr (by omega) wS Cx (by omega) (by omega) FE e3 uV;have hle:=fC t h;have hB:max m (fE (ks.drop q) h)=max (max m (t.height h)) (fE (ks.drop (q+1)) h):=by rw[hsplit];simp only[fE];omega
    rw[hB]at e1
    have E1:=Lib.hid e1;have Df:S.bp∉[w.heap.size+1]:=by simp;omega
    have hgn:S.g∉[w.heap.size+1]:=by simp;omega
    have Dh:w.heap.size∉[w.heap.size+1]:=by simp
    clear hsplit hp wS hrow hb3 hb4 Cx e1 hB
    go_wp2_with (first|(go_at_call 64;refine hup.mono ?_;rintro e w5 ⟨rfl,hb5,fF⟩;have PN:=uV.fr fF Dh;obtain⟨yc,yz,wm,yb⟩:=PN.rules;have PO:w5.cell? ⟨S.g,p*6,none⟩=some (.int .i64 t.n.kind):=fF.cell hpk hgn;have Wv:w5.cell? ⟨S.bp,0,none⟩=some (.slice (some ⟨S.g,0,none⟩) S.R.length S.c):=fF.cell xc0 Df))
    go_roundw
    case rel=>exact⟨q+1,by go_num,by omega,max m (t.height h),E1.out,by omega,hb5,e4.trans fF,e5.trans fF⟩
    case measure=>simp[intOf];omega
   ·obtain rfl:q=ks.length:=by omega
    obtain⟨kc,kz,aH,kb⟩:=e3.rules
    rw[List.drop_length]at e1
    have LV:m=(Tree.mk n ks).height h:=by
     unfold Tree.height;simp[fE,h5,h11,h21,Cu,h23,h8,h18,h19,h20,h22,Gh,Ww,h27,Wx,Wy,Wz,h31]at e1 ⊢
     try (split<;>omega)
     try omega
    have E1:=Lib.hid LV;clear e1 LV;go_wp2;go_ret;exact⟨by rw[←E1.out];first|rfl|(show Ending.returned (Value.int .i64 (max (m:Int) ((h:Int)+1)))=_;congr 2;omega),((PK.out.trans hf1).then e4 (fun x hx=>.inr (by have:=List.mem_singleton.1 hx;omega)))⟩
theorem FK (ih:Ht S N) (n:Ck.Node) (ks:List Tree) (rest:List Ck.Node) (i h:Nat) (w:World) (hs:(Tree.mk n ks).size≤N+1) (hT:S.R.drop i=(Tree.mk n ks).row++rest) (hA:(Tree.mk n ks).all Three) (hh:h+5*(Tree.mk n ks).size≤1000000000000000) (hlim:S.R.length≤1099511627776) (hw:HW S w) (h5:(n.kind==5)=false) (h11:(n.kind==11)=false) (h21:(n.kind==21)=false) (Cu:(n.kind==24)=false) (h23:(n.kind==23)=false) (h8:(n.kind==8)=false) (h18:(n.kind==18)=false) (h19:(n.kind==19)=false) (h20:(n.kind==20)=false) (h22:(n.kind==22)=false) (Gh:(n.kind==25)=false) (Ww:(n.kind==26)=false) (h27:(n.kind==27)=false) (Wx:(n.kind==28)=false) (Wy:(n.kind==29)=false) (Wz:(n.kind==30)=false) (h31:(n.kind==31)=false) (h32:n.kind≤31) :
  Calls Tryz.prog 32 #[.pointer (some ⟨S.bp,0,none⟩),.int .i64 i,.int .i64 h] w fun e w'=>e=.returned (.int .i64 ((Tree.mk n ks).height h:Nat))∧Fr [] w w':=by
 have ael:¬(25≤n.kind):=by simp at Gh Ww h27 Wx Wy Wz h31;omega
 obtain⟨cs,hb,hcs⟩:=hw.oP
 obtain⟨hrow,aD⟩:=bJ hT
 have hil:(i:Int)<S.R.length:=by have:=(List.getElem?_eq_some_iff.1 aD).1;omega
 have hW1:HW S ((w.alloc (.cells #[.pointer (some ⟨S.bp,0,none⟩)] 45)).alloc (.cells #[.int .i64 h] 3)):=hw.fr (((Fr.refl [] _).alloc _).alloc _) (by simp) (by simp);obtain⟨cs1,hb1,hcs1⟩:=hW1.oP
 have hk:=dM S.bp S.R rest i S.g S.c n ks hT hlim _ hW1.row cs1 hb1 hcs1;have hbc:=(au.new w #[.pointer (some ⟨S.bp,0,none⟩)] 45).alloc (.cells #[.int .i64 h] 3);have Bh:=au.new (w.alloc (.cells #[.pointer (some ⟨S.bp,0,none⟩)] 45)) #[.int .i64 h] 3;simp only[World.size_alloc]at Bh;have HK:=Lib.hid aD;have HT:=Lib.hid hT;have Hw:=Lib.hid hw;have HL:=Lib.hid hlim;have PK:=Lib.hid (((Fr.refl [] w).alloc (.cells #[.pointer (some ⟨S.bp,0,none⟩)] 45)).alloc (.cells #[.int .i64 h] 3));have HW1:=Lib.hid hW1;clear aD hT hw hb hcs hb1 hcs1 hlim;clear hW1;go_enter Tryz.func32,Tryz.ntmps32
 go_wp2_with (first|(go_at_call 31;refine hk.mono ?_;rintro e w1 ⟨v,rfl,hown,hf1⟩;obtain⟨sa,Kk,rfl⟩:=gX hown;obtain⟨mc,mz,zX,mb⟩:=(Bh.fr hf1 (by simp)).rules;obtain⟨cc,cz,PL,cb⟩:=(hbc.fr hf1 (by simp)).rules;obtain⟨cs2,b2,d2⟩:=(HW1.out.fr hf1 (by simp) (by simp)).oP;obtain⟨rc,rz,bE,rb⟩:=b2.rules;have rP:w1.cell? ⟨S.bp,0,none⟩=some (.slice (some ⟨S.g,0,none⟩) S.R.length S.c):=(rc 0).trans d2;have cB:=(HW1.out.fr hf1 (by simp) (by simp)).row.cells i _ HK.out;have n0:w1.cell? ⟨S.g,i*6,none⟩=some (.int .i64 n.kind):=cB 0 (by omega);have n1:w1.cell? ⟨S.g,i*6+1,none⟩=some (.int .i64 n.at'):=cB 1 (by omega);have n2:w1.cell? ⟨S.g,i*6+2,none⟩=some (.int .i64 (ks.length:Int)):=cB 2 (by omega);have n3:w1.cell? ⟨S.g,i*6+3,none⟩=some (.string ⟨n.text.toArray⟩):=cB 3 (by omega);have n4:w1.cell? ⟨S.g,i*6+4,none⟩=some (.int .i64 n.int):=cB 4 (by omega);have n5:w1.cell? ⟨S.g,i*6+5,none⟩=some (.int .u64 n.bits):=cB 5 (by omega);clear rc cB))
 obtain⟨w2,hw2⟩:∃w2,w1.alloc (.cells #[.int .i64 n.kind,.int .i64 n.at',.int .i64 (ks.length:Int),.string ⟨n.text.toArray⟩,.int .i64 n.int,.int .u64 n.bits] 40)=w2:=⟨_,rfl⟩
 rw[hw2];have hf2:Fr [w.heap.size+1] w1 w2:=by rw[←hw2];exact(Fr.refl _ _).alloc _
 have Km:au w2 (w.heap.size+1) #[.int .i64 (h:Int)] 3:=by rw[←hw2];exact(Bh.fr hf1 (by simp)).alloc _
 have RY:au w2 w1.heap.size #[.int .i64 n.kind,.int .i64 n.at',.int .i64 (ks.length:Int),.string ⟨n.text.toArray⟩,.int .i64 n.int,.int .u64 n.bits] 40:=by rw[←hw2];exact au.new _ _ _
 clear hw2;have HM:Hid (∃m,max m (fE (ks.drop 0) h)=max h (fE ks h)∧m≤h+5*(sizes ks+1)∧au w2 (w.heap.size+1) #[.int .i64 (m:Nat)] 3∧Fr [w.heap.size+1] w1 w2∧Fr [w.heap.size+1] w2 w2):=⟨h,by simp,by omega,Km,hf2,Fr.refl _ _⟩
 go_loopw [18,35] (fun _x j wr=>∃(q:Nat),j=.int .i64 q∧q≤ks.length∧Hid (∃m,max m (fE (ks.drop q) h)=max h (fE ks h)∧m≤h+5*(sizes ks+1)∧au wr (w.heap.size+1) #[.int .i64 (m:Nat)] 3∧Fr [w.heap.size+1] w1 wr∧Fr [w.heap.size+1] w2 wr)) (fun _ j _=>ks.length-(intOf j).toNat)
 case atStart=>exact⟨0,rfl,Nat.zero_le _,HM.out⟩
 case round =>
  obtain⟨q,rfl,hq1,hq⟩:=hrel
  obtain⟨m,e1,e2,e3,e4,e5⟩:=hq.out
  clear hq;by_cases hlt:q<ks.length
  ·obtain⟨t,ht⟩:∃t,ks[q]? = some t:=⟨_,List.getElem?_eq_getElem hlt⟩
   have hsplit:ks.drop q=t::ks.drop (q+1):=by
    rw[List.drop_eq_getElem_cons hlt];rw[List.getElem?_eq_getElem hlt]at ht
    rw[Option.some.inj ht]
   obtain⟨p,rest',hp,wS⟩:=jO hrow ht
   obtain⟨g',cap',hv,hgb,hgl⟩:=hown.form (by omega)
   cases hv;have hsz2:=hf1.size;simp at hgb hsz2
   have hcell:wr.cell? ⟨g',q,none⟩=some (.int .i64 (p:Int)):=by
    refine e4.cell ?_ (by simp;omega);rw[hown.cellAt q (by omega)];simp[gM,hp]
   have hbw:=Hw.out.row.gl;obtain⟨Wu,hb3,_⟩:=Hw.out.oP
   have hbl:=hb3.lt;have FE:HW S wr:=(HW1.out.fr hf1 (by simp) (by simp)).fr e4 (by simp;omega) (by simp;omega);obtain⟨cs4,hb4,hc4⟩:=FE.oP
   obtain⟨xc,xz,Nc,xb⟩:=hb4.rules
   have xc0:wr.cell? ⟨S.bp,0,none⟩=some (.slice (some ⟨S.g,0,none⟩) S.R.length S.c):=(xc 0).trans hc4;have uV:au wr w.heap.size #[.pointer (some ⟨S.bp,0,none⟩)] 45:=(hbc.fr hf1 (by simp)).fr e4 (by simp)
   have hpn:S.R[p]? = some { t.n with kids:=(t.ks.length:Int) }:=by
    obtain⟨tn,tk⟩:=t
    exact(bJ wS).2
   have hpl:(p:Int)<S.R.length:=by have:=(List.getElem?_eq_some_iff.1 hpn).1;omega
   have hpk:wr.cell? ⟨S.g,p*6,none⟩=some (.int .i64 t.n.kind):=FE.row.cells p _ hpn 0 (by omega);have hts:=jH ht;have Cx:t.all Three:=dN hA.2 t (List.mem_of_getElem? ht);have o9:(Tree.mk n ks).size=sizes ks+1:=by simp[Tree.size]
   have hup:=sI ih t rest' p h m (w.heap.size+1) w.heap.size wr (by omega) wS Cx (by omega) (by omega) FE e3 uV;have hle:=fC t h;have hB:max m (fE (ks.drop q) h)=max (max m (t.height h)) (fE (ks.drop (q+1)) h):=by rw[hsplit];simp only[fE];omega
   rw[hB]at e1
   have E1:=Lib.hid e1;have Df:S.bp∉[w.heap.size+1]:=by simp;omega
   have hgn:S.g∉[w.heap.size+1]:=by simp;omega
   have Dh:w.heap.size∉[w.heap.size+1]:=by simp
   clear hsplit hp wS hrow hb3 hb4 Cx e1 hB
   go_wp2_with (first|(go_at_call 64;refine hup.mono ?_;rintro e w5 ⟨rfl,hb5,fF⟩;have PN:=uV.fr fF Dh;obtain⟨yc,yz,wm,yb⟩:=PN.rules;have PO:w5.cell? ⟨S.g,p*6,none⟩=some (.int .i64 t.n.kind):=fF.cell hpk hgn;have Wv:w5.cell? ⟨S.bp,0,none⟩=some (.slice (some ⟨S.g,0,none⟩) S.R.length S.c):=fF.cell xc0 Df))
   go_roundw
   case rel=>exact⟨q+1,by go_num,by omega,max m (t.height h),E1.out,by omega,hb5,e4.trans fF,e5.trans fF⟩
   case measure=>simp[intOf];omega
  ·obtain rfl:q=ks.length:=by omega
   obtain⟨kc,kz,aH,kb⟩:=e3.rules
   rw[List.drop_length]at e1
   have LV:m=(Tree.mk n ks).height h:=by
    unfold Tree.height;simp[fE,h5,h11,h21,Cu,h23,h8,h18,h19,h20,h22,Gh,Ww,h27,Wx,Wy,Wz,h31,h32]at e1 ⊢
    try (split<;>omega)
    try omega
   have E1:=Lib.hid LV;clear e1 LV;go_wp2;go_ret;exact⟨by rw[←E1.out];first|rfl|(show Ending.returned (Value.int .i64 (max (m:Int) ((h:Int)+1)))=_;congr 2;omega),((PK.out.trans hf1).then e4 (fun x hx=>.inr (by have:=List.mem_singleton.1 hx;omega)))⟩
end
end Go.Proofs.YtoomapkcoibmhaaGreatDoor
end
