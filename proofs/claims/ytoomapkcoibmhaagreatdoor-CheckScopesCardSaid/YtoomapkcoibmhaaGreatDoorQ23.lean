/- A part of the proof. -/
import Derived.Test.YtoomapkcoibmhaaGreatDoorQ22
set_option maxRecDepth 100000
set_option maxHeartbeats 12800000
set_option linter.all false
section
open Go Go.Proofs Go.RowKit Ck
namespace Go.Proofs.YtoomapkcoibmhaaGreatDoor
section
variable {S:QSt}
theorem qst6 {q:PRec} (ihe:QAny 187 S q.expr) (ihc:QAny 190 S q.choice) (ihl:QAny 191 S q.loop) {a:Nat} {toks:List Bytes} {w:World} {r:Option (Unit × (List Ck.Node × List Bytes))} (h:QS S a toks w) (hk:Hid (nk (S.l.drop a)=6)) (HM:Hid (qStatement q (S.l.drop a,toks)=some r)) :
  Calls Tryz.prog 157 #[.pointer (some ⟨S.bp,0,none⟩)] w (VOut S w unitV r):=by
 unfold qStatement at HM
 have p0:=Pf.refl S.bp w
 have HM0:=q_kind HM
 clear HM
 simp only[hk.out]at HM0
 have kt:Hid True:=trivial
 have HM1:=q_ite_pos (by decide) HM0
 clear HM0
 go_enter Tryz.func157,Tryz.ntmps157
 go_wp2_with (first
   | (go_at_call 74;refine(q_kindk h hk kt).mono ?_;rintro e w2 ⟨rfl,h2,pf2⟩;have p2:=p0.trans pf2;clear kt)
   | (go_at_call 77;refine(q_call (qnamed_any 6 1) h2 HM1).mono ?_;rintro e w3 (⟨rfl,hr,pf3⟩|⟨x,a3,toks3,rfl,h3,pf3,HM3⟩);exact⟨rfl,VOut.pan hr (p2.trans pf3)⟩;simp only[strV];have p3:=p2.trans pf3;clear HM1)
   | (go_at_call 76;refine(q_putc (l:=[[108,101,116],x,[61]]) h3 HM3 rfl (by simp) (by first|rfl|simp)).mono ?_;rintro e w4 ⟨rfl,h4,pf4,HM4⟩;have p4:=p3.trans pf4;clear HM3)
   | (go_at_call 187;refine(q_call ihe h4 HM4).mono ?_;rintro e w5 (⟨rfl,hr,pf5⟩|⟨u5,a5,toks5,rfl,h5,pf5,HM5⟩);exact⟨rfl,VOut.pan hr (p4.trans pf5)⟩;simp only[unitV];have p5:=p4.trans pf5;clear HM4)
   | (go_at_call 76;refine(q_putc (l:=[[59]]) h5 (q_last HM5) rfl (by simp) (by first|rfl|simp)).mono ?_;rintro e w6 ⟨rfl,h6,pf6,HM6⟩;have p6:=p5.trans pf6;clear HM5))
 go_end0
 exact VOut.ret (y:=()) HM6 h6 p6
theorem qst7 {q:PRec} (ihe:QAny 187 S q.expr) (ihc:QAny 190 S q.choice) (ihl:QAny 191 S q.loop) {a:Nat} {toks:List Bytes} {w:World} {r:Option (Unit × (List Ck.Node × List Bytes))} (h:QS S a toks w) (hk:Hid (nk (S.l.drop a)=7)) (HM:Hid (qStatement q (S.l.drop a,toks)=some r)) :
  Calls Tryz.prog 157 #[.pointer (some ⟨S.bp,0,none⟩)] w (VOut S w unitV r):=by
 unfold qStatement at HM
 have p0:=Pf.refl S.bp w
 have HM0:=q_kind HM
 clear HM
 simp only[hk.out]at HM0
 have kt:Hid True:=trivial
 have HM1:=q_ite_neg (by decide) HM0
 clear HM0
 have HM2:=q_ite_pos (by decide) HM1
 clear HM1
 go_enter Tryz.func157,Tryz.ntmps157
 go_wp2_with (first
   | (go_at_call 74;refine(q_kindk h hk kt).mono ?_;rintro e w3 ⟨rfl,h3,pf3⟩;have p3:=p0.trans pf3;clear kt)
   | (go_at_call 77;refine(q_call (qnamed_any 7 1) h3 HM2).mono ?_;rintro e w4 (⟨rfl,hr,pf4⟩|⟨x,a4,toks4,rfl,h4,pf4,HM4⟩);exact⟨rfl,VOut.pan hr (p3.trans pf4)⟩;simp only[strV];have p4:=p3.trans pf4;clear HM2)
   | (go_at_call 76;refine(q_putc (l:=[x,[61]]) h4 HM4 rfl (by simp) (by first|rfl|simp)).mono ?_;rintro e w5 ⟨rfl,h5,pf5,HM5⟩;have p5:=p4.trans pf5;clear HM4)
   | (go_at_call 187;refine(q_call ihe h5 HM5).mono ?_;rintro e w6 (⟨rfl,hr,pf6⟩|⟨u6,a6,toks6,rfl,h6,pf6,HM6⟩);exact⟨rfl,VOut.pan hr (p5.trans pf6)⟩;simp only[unitV];have p6:=p5.trans pf6;clear HM5)
   | (go_at_call 76;refine(q_putc (l:=[[59]]) h6 (q_last HM6) rfl (by simp) (by first|rfl|simp)).mono ?_;rintro e w7 ⟨rfl,h7,pf7,HM7⟩;have p7:=p6.trans pf7;clear HM6))
 go_end0
 exact VOut.ret (y:=()) HM7 h7 p7
theorem qst8 {q:PRec} (ihe:QAny 187 S q.expr) (ihc:QAny 190 S q.choice) (ihl:QAny 191 S q.loop) {a:Nat} {toks:List Bytes} {w:World} {r:Option (Unit × (List Ck.Node × List Bytes))} (h:QS S a toks w) (hk:Hid (nk (S.l.drop a)=8)) (HM:Hid (qStatement q (S.l.drop a,toks)=some r)) :
  Calls Tryz.prog 157 #[.pointer (some ⟨S.bp,0,none⟩)] w (VOut S w unitV r):=by
 unfold qStatement at HM
 have p0:=Pf.refl S.bp w
 have HM0:=q_kind HM
 clear HM
 simp only[hk.out]at HM0
 have kt:Hid True:=trivial
 have HM1:=q_ite_neg (by decide) HM0
 clear HM0
 have HM2:=q_ite_neg (by decide) HM1
 clear HM1
 have HM3:=q_ite_pos (by decide) HM2
 clear HM2
 go_enter Tryz.func157,Tryz.ntmps157
 go_wp2_with (first
   | (go_at_call 74;refine(q_kindk h hk kt).mono ?_;rintro e w4 ⟨rfl,h4,pf4⟩;have p4:=p0.trans pf4;clear kt)
   | (go_at_call 188;refine(q_call (qbare_any 8 3) h4 HM3).mono ?_;rintro e w5 (⟨rfl,hr,pf5⟩|⟨u5,a5,toks5,rfl,h5,pf5,HM5⟩);exact⟨rfl,VOut.pan hr (p4.trans pf5)⟩;simp only[unitV];have p5:=p4.trans pf5;clear HM3)
   | (go_at_call 189;refine(q_call (qindexed_any ihe) h5 HM5).mono ?_;rintro e w6 (⟨rfl,hr,pf6⟩|⟨u6,a6,toks6,rfl,h6,pf6,HM6⟩);exact⟨rfl,VOut.pan hr (p5.trans pf6)⟩;simp only[unitV];have p6:=p5.trans pf6;clear HM5)
   | (go_at_call 76;refine(q_putc (l:=[[61]]) h6 HM6 rfl (by simp) (by first|rfl|simp)).mono ?_;rintro e w7 ⟨rfl,h7,pf7,HM7⟩;have p7:=p6.trans pf7;clear HM6)
   | (go_at_call 187;refine(q_call ihe h7 HM7).mono ?_;rintro e w8 (⟨rfl,hr,pf8⟩|⟨u8,a8,toks8,rfl,h8,pf8,HM8⟩);exact⟨rfl,VOut.pan hr (p7.trans pf8)⟩;simp only[unitV];have p8:=p7.trans pf8;clear HM7)
   | (go_at_call 76;refine(q_putc (l:=[[59]]) h8 (q_last HM8) rfl (by simp) (by first|rfl|simp)).mono ?_;rintro e w9 ⟨rfl,h9,pf9,HM9⟩;have p9:=p8.trans pf9;clear HM8))
 go_end0
 exact VOut.ret (y:=()) HM9 h9 p9
theorem qst9 {q:PRec} (ihe:QAny 187 S q.expr) (ihc:QAny 190 S q.choice) (ihl:QAny 191 S q.loop) {a:Nat} {toks:List Bytes} {w:World} {r:Option (Unit × (List Ck.Node × List Bytes))} (h:QS S a toks w) (hk:Hid (nk (S.l.drop a)=9)) (HM:Hid (qStatement q (S.l.drop a,toks)=some r)) :
  Calls Tryz.prog 157 #[.pointer (some ⟨S.bp,0,none⟩)] w (VOut S w unitV r):=by
 unfold qStatement at HM
 have p0:=Pf.refl S.bp w
 have HM0:=q_kind HM
 clear HM
 simp only[hk.out]at HM0
 have kt:Hid True:=trivial
 have HM1:=q_ite_neg (by decide) HM0
 clear HM0
 have HM2:=q_ite_neg (by decide) HM1
 clear HM1
 have HM3:=q_ite_neg (by decide) HM2
 clear HM2
 have HM4:=q_ite_pos (by decide) HM3
 clear HM3
 go_enter Tryz.func157,Tryz.ntmps157
 go_wp2_with (first
   | (go_at_call 74;refine(q_kindk h hk kt).mono ?_;rintro e w5 ⟨rfl,h5,pf5⟩;have p5:=p0.trans pf5;clear kt)
   | (go_at_call 190;refine(q_call ihc h5 (q_last HM4)).mono ?_;rintro e w6 (⟨rfl,hr,pf6⟩|⟨u6,a6,toks6,rfl,h6,pf6,HM6⟩);exact⟨rfl,VOut.pan hr (p5.trans pf6)⟩;simp only[unitV];have p6:=p5.trans pf6;clear HM4))
 go_end0
 exact VOut.ret (y:=()) HM6 h6 p6
theorem qst10 {q:PRec} (ihe:QAny 187 S q.expr) (ihc:QAny 190 S q.choice) (ihl:QAny 191 S q.loop) {a:Nat} {toks:List Bytes} {w:World} {r:Option (Unit × (List Ck.Node × List Bytes))} (h:QS S a toks w) (hk:Hid (nk (S.l.drop a)=10)) (HM:Hid (qStatement q (S.l.drop a,toks)=some r)) :
  Calls Tryz.prog 157 #[.pointer (some ⟨S.bp,0,none⟩)] w (VOut S w unitV r):=by
 unfold qStatement at HM
 have p0:=Pf.refl S.bp w
 have HM0:=q_kind HM
 clear HM
 simp only[hk.out]at HM0
 have kt:Hid True:=trivial
 have HM1:=q_ite_neg (by decide) HM0
 clear HM0
 have HM2:=q_ite_neg (by decide) HM1
 clear HM1
 have HM3:=q_ite_neg (by decide) HM2
 clear HM2
 have HM4:=q_ite_neg (by decide) HM3
 clear HM3
 have HM5:=q_ite_pos (by decide) HM4
 clear HM4
 go_enter Tryz.func157,Tryz.ntmps157
 go_wp2_with (first
   | (go_at_call 74;refine(q_kindk h hk kt).mono ?_;rintro e w6 ⟨rfl,h6,pf6⟩;have p6:=p0.trans pf6;clear kt)
   | (go_at_call 191;refine(q_call ihl h6 (q_last HM5)).mono ?_;rintro e w7 (⟨rfl,hr,pf7⟩|⟨u7,a7,toks7,rfl,h7,pf7,HM7⟩);exact⟨rfl,VOut.pan hr (p6.trans pf7)⟩;simp only[unitV];have p7:=p6.trans pf7;clear HM5))
 go_end0
 exact VOut.ret (y:=()) HM7 h7 p7
theorem qst11 {q:PRec} (ihe:QAny 187 S q.expr) (ihc:QAny 190 S q.choice) (ihl:QAny 191 S q.loop) {a:Nat} {toks:List Bytes} {w:World} {r:Option (Unit × (List Ck.Node × List Bytes))} (h:QS S a toks w) (hk:Hid (nk (S.l.drop a)=11)) (HM:Hid (qStatement q (S.l.drop a,toks)=some r)) :
  Calls Tryz.prog 157 #[.pointer (some ⟨S.bp,0,none⟩)] w (VOut S w unitV r):=by
 unfold qStatement at HM
 have p0:=Pf.refl S.bp w
 have HM0:=q_kind HM
 clear HM
 simp only[hk.out]at HM0
 have kt:Hid True:=trivial
 have HM1:=q_ite_neg (by decide) HM0
 clear HM0
 have HM2:=q_ite_neg (by decide) HM1
 clear HM1
 have HM3:=q_ite_neg (by decide) HM2
 clear HM2
 have HM4:=q_ite_neg (by decide) HM3
 clear HM3
 have HM5:=q_ite_pos (by decide) HM4
 clear HM4
 go_enter Tryz.func157,Tryz.ntmps157
 go_wp2_with (first
   | (go_at_call 74;refine(q_kindk h hk kt).mono ?_;rintro e w6 ⟨rfl,h6,pf6⟩;have p6:=p0.trans pf6;clear kt)
   | (go_at_call 191;refine(q_call ihl h6 (q_last HM5)).mono ?_;rintro e w7 (⟨rfl,hr,pf7⟩|⟨u7,a7,toks7,rfl,h7,pf7,HM7⟩);exact⟨rfl,VOut.pan hr (p6.trans pf7)⟩;simp only[unitV];have p7:=p6.trans pf7;clear HM5))
 go_end0
 exact VOut.ret (y:=()) HM7 h7 p7
theorem qst13 {q:PRec} (ihe:QAny 187 S q.expr) (ihc:QAny 190 S q.choice) (ihl:QAny 191 S q.loop) {a:Nat} {toks:List Bytes} {w:World} {r:Option (Unit × (List Ck.Node × List Bytes))} (h:QS S a toks w) (hk:Hid (nk (S.l.drop a)=13)) (HM:Hid (qStatement q (S.l.drop a,toks)=some r)) :
  Calls Tryz.prog 157 #[.pointer (some ⟨S.bp,0,none⟩)] w (VOut S w unitV r):=by
 unfold qStatement at HM
 have kt2:Hid True:=trivial
 have p0:=Pf.refl S.bp w
 have HM0:=q_kind HM
 clear HM
 simp only[hk.out]at HM0
 have kt:Hid True:=trivial
 have HM1:=q_ite_neg (by decide) HM0
 clear HM0
 have HM2:=q_ite_neg (by decide) HM1
 clear HM1
 have HM3:=q_ite_neg (by decide) HM2
 clear HM2
 have HM4:=q_ite_neg (by decide) HM3
 clear HM3
 have HM5:=q_ite_neg (by decide) HM4
 clear HM4
 have HM6:=q_ite_pos (by decide) HM5
 clear HM5
 go_enter Tryz.func157,Tryz.ntmps157
 go_upto_if 67 with(first
   | (go_at_call 74;refine(q_kindk h hk kt).mono ?_;rintro e w7 ⟨rfl,h7,pf7⟩;have p7:=p0.trans pf7;clear kt)
   | (go_at_call 74;refine(q_kindk h7 hk kt2).mono ?_;rintro e w8 ⟨rfl,h8,pf8⟩;have p8:=p7.trans pf8;clear kt2)
   | (go_at_call 75;refine(q_next h8 HM6).mono ?_;rintro e w9 (⟨rfl,hr,pf9⟩|⟨n,a9,rfl,hin9,hk9,h9,pf9,HM9⟩);exact⟨rfl,VOut.pan hr (p8.trans pf9)⟩;have p9:=p8.trans pf9;have ok9:=h9.ok _ hin9;clear HM6;have bxn:=Blk.new w9 #[.int .i64 n.kind,.int .i64 n.at',.int .i64 n.kids,.string ⟨n.text.toArray⟩,.int .i64 n.int,.int .u64 n.bits] 40;obtain⟨ncn,nzn,nsetn,nbn⟩:=bxn.rules;have hnen:w9.heap.size≠S.bp:=(by have:=h9.lt;omega);have h10:=h9.alloc (.cells #[.int .i64 n.kind,.int .i64 n.at',.int .i64 n.kids,.string ⟨n.text.toArray⟩,.int .i64 n.int,.int .u64 n.bits] 40);have p10:=p9.trans (QS.fr0 h9 ((Fr.refl _ _).alloc (.cells #[.int .i64 n.kind,.int .i64 n.at',.int .i64 n.kids,.string ⟨n.text.toArray⟩,.int .i64 n.int,.int .u64 n.bits] 40))))
   | (go_at_call 48;refine(fit_any (n.kids==0) _).mono ?_;rintro e w11 (⟨hb11,rfl,rfl⟩|⟨hb11,rfl,rfl⟩);have HM11:=(q_fit HM9).1 hb11;rotate_left;exact⟨rfl,VOut.pan ((q_fit HM9).2 hb11) p10⟩;clear HM9)
   | (go_at_call 76;refine(q_putc (l:=[[98,114,101,97,107]]) h10 HM11 rfl (by simp) (by first|rfl|simp)).mono ?_;rintro e w12 ⟨rfl,h12,pf12,HM12⟩;have p12:=p10.trans pf12;have bxn:=QS.blkOn h10 pf12 bxn (by decide) hnen;obtain⟨ncn,nzn,nsetn,nbn⟩:=bxn.rules;clear HM11))
 cases et:n.text.isEmpty
 ·skip
  have HM13:=q_ite_pos (ne_nil_of et) HM12
  clear HM12
  go_wp2_with (first
    | (go_at_call 104;refine(q_namec h12 ok9.text HM13).mono ?_;rintro e w14 (⟨rfl,hr,pf14⟩|⟨rfl,h14,pf14,HM14⟩);exact⟨rfl,VOut.pan hr (p12.trans pf14)⟩;have p14:=p12.trans pf14;have bxn:=QS.blkOn h12 pf14 bxn (by decide) hnen;obtain⟨ncn,nzn,nsetn,nbn⟩:=bxn.rules;clear HM13)
    | (go_at_call 76;refine(q_putc (l:=[n.text]) h14 HM14 rfl (by simp) (by first|rfl|simp)).mono ?_;rintro e w15 ⟨rfl,h15,pf15,HM15⟩;have p15:=p14.trans pf15;have bxn:=QS.blkOn h14 pf15 bxn (by decide) hnen;obtain⟨ncn,nzn,nsetn,nbn⟩:=bxn.rules;clear HM14)
    | (go_at_call 76;refine(q_putc (l:=[[59]]) h15 (q_last HM15) rfl (by simp) (by first|rfl|simp)).mono ?_;rintro e w16 ⟨rfl,h16,pf16,HM16⟩;have p16:=p15.trans pf16;have bxn:=QS.blkOn h15 pf16 bxn (by decide) hnen;obtain⟨ncn,nzn,nsetn,nbn⟩:=bxn.rules;clear HM15))
  go_end0
  exact VOut.ret (y:=()) HM16 h16 p16
 ·skip
  have HM13:=q_ite_neg (eq_nil_of et) HM12
  clear HM12
  go_wp2_with (first
    | (go_at_call 76;refine(q_putc (l:=[[59]]) h12 (q_last HM13) rfl (by simp) (by first|rfl|simp)).mono ?_;rintro e w14 ⟨rfl,h14,pf14,HM14⟩;have p14:=p12.trans pf14;have bxn:=QS.blkOn h12 pf14 bxn (by decide) hnen;obtain⟨ncn,nzn,nsetn,nbn⟩:=bxn.rules;clear HM13))
  go_end0
  exact VOut.ret (y:=()) HM14 h14 p14
theorem qst14 {q:PRec} (ihe:QAny 187 S q.expr) (ihc:QAny 190 S q.choice) (ihl:QAny 191 S q.loop) {a:Nat} {toks:List Bytes} {w:World} {r:Option (Unit × (List Ck.Node × List Bytes))} (h:QS S a toks w) (hk:Hid (nk (S.l.drop a)=14)) (HM:Hid (qStatement q (S.l.drop a,toks)=some r)) :
  Calls Tryz.prog 157 #[.pointer (some ⟨S.bp,0,none⟩)] w (VOut S w unitV r):=by
 unfold qStatement at HM
 have kt2:Hid True:=trivial
 have p0:=Pf.refl S.bp w
 have HM0:=q_kind HM
 clear HM
 simp only[hk.out]at HM0
 have kt:Hid True:=trivial
 have HM1:=q_ite_neg (by decide) HM0
 clear HM0
 have HM2:=q_ite_neg (by decide) HM1
 clear HM1
 have HM3:=q_ite_neg (by decide) HM2
 clear HM2
 have HM4:=q_ite_neg (by decide) HM3
 clear HM3
 have HM5:=q_ite_neg (by decide) HM4
 clear HM4
 have HM6:=q_ite_pos (by decide) HM5
 clear HM5
 go_enter Tryz.func157,Tryz.ntmps157
 go_upto_if 67 with(first
   | (go_at_call 74;refine(q_kindk h hk kt).mono ?_;rintro e w7 ⟨rfl,h7,pf7⟩;have p7:=p0.trans pf7;clear kt)
   | (go_at_call 74;refine(q_kindk h7 hk kt2).mono ?_;rintro e w8 ⟨rfl,h8,pf8⟩;have p8:=p7.trans pf8;clear kt2)
   | (go_at_call 75;refine(q_next h8 HM6).mono ?_;rintro e w9 (⟨rfl,hr,pf9⟩|⟨n,a9,rfl,hin9,hk9,h9,pf9,HM9⟩);exact⟨rfl,VOut.pan hr (p8.trans pf9)⟩;have p9:=p8.trans pf9;have ok9:=h9.ok _ hin9;clear HM6;have bxn:=Blk.new w9 #[.int .i64 n.kind,.int .i64 n.at',.int .i64 n.kids,.string ⟨n.text.toArray⟩,.int .i64 n.int,.int .u64 n.bits] 40;obtain⟨ncn,nzn,nsetn,nbn⟩:=bxn.rules;have hnen:w9.heap.size≠S.bp:=(by have:=h9.lt;omega);have h10:=h9.alloc (.cells #[.int .i64 n.kind,.int .i64 n.at',.int .i64 n.kids,.string ⟨n.text.toArray⟩,.int .i64 n.int,.int .u64 n.bits] 40);have p10:=p9.trans (QS.fr0 h9 ((Fr.refl _ _).alloc (.cells #[.int .i64 n.kind,.int .i64 n.at',.int .i64 n.kids,.string ⟨n.text.toArray⟩,.int .i64 n.int,.int .u64 n.bits] 40))))
   | (go_at_call 48;refine(fit_any (n.kids==0) _).mono ?_;rintro e w11 (⟨hb11,rfl,rfl⟩|⟨hb11,rfl,rfl⟩);have HM11:=(q_fit HM9).1 hb11;rotate_left;exact⟨rfl,VOut.pan ((q_fit HM9).2 hb11) p10⟩;clear HM9)
   | (go_at_call 76;refine(q_putc (l:=[[99,111,110,116,105,110,117,101]]) h10 HM11 rfl (by simp) (by first|rfl|simp)).mono ?_;rintro e w12 ⟨rfl,h12,pf12,HM12⟩;have p12:=p10.trans pf12;have bxn:=QS.blkOn h10 pf12 bxn (by decide) hnen;obtain⟨ncn,nzn,nsetn,nbn⟩:=bxn.rules;clear HM11))
 cases et:n.text.isEmpty
 ·skip
  have HM13:=q_ite_pos (ne_nil_of et) HM12
  clear HM12
  go_wp2_with (first
    | (go_at_call 104;refine(q_namec h12 ok9.text HM13).mono ?_;rintro e w14 (⟨rfl,hr,pf14⟩|⟨rfl,h14,pf14,HM14⟩);exact⟨rfl,VOut.pan hr (p12.trans pf14)⟩;have p14:=p12.trans pf14;have bxn:=QS.blkOn h12 pf14 bxn (by decide) hnen;obtain⟨ncn,nzn,nsetn,nbn⟩:=bxn.rules;clear HM13)
    | (go_at_call 76;refine(q_putc (l:=[n.text]) h14 HM14 rfl (by simp) (by first|rfl|simp)).mono ?_;rintro e w15 ⟨rfl,h15,pf15,HM15⟩;have p15:=p14.trans pf15;have bxn:=QS.blkOn h14 pf15 bxn (by decide) hnen;obtain⟨ncn,nzn,nsetn,nbn⟩:=bxn.rules;clear HM14)
    | (go_at_call 76;refine(q_putc (l:=[[59]]) h15 (q_last HM15) rfl (by simp) (by first|rfl|simp)).mono ?_;rintro e w16 ⟨rfl,h16,pf16,HM16⟩;have p16:=p15.trans pf16;have bxn:=QS.blkOn h15 pf16 bxn (by decide) hnen;obtain⟨ncn,nzn,nsetn,nbn⟩:=bxn.rules;clear HM15))
  go_end0
  exact VOut.ret (y:=()) HM16 h16 p16
 ·skip
  have HM13:=q_ite_neg (eq_nil_of et) HM12
  clear HM12
  go_wp2_with (first
    | (go_at_call 76;refine(q_putc (l:=[[59]]) h12 (q_last HM13) rfl (by simp) (by first|rfl|simp)).mono ?_;rintro e w14 ⟨rfl,h14,pf14,HM14⟩;have p14:=p12.trans pf14;have bxn:=QS.blkOn h12 pf14 bxn (by decide) hnen;obtain⟨ncn,nzn,nsetn,nbn⟩:=bxn.rules;clear HM13))
  go_end0
  exact VOut.ret (y:=()) HM14 h14 p14
theorem qst15 {q:PRec} (ihe:QAny 187 S q.expr) (ihc:QAny 190 S q.choice) (ihl:QAny 191 S q.loop) {a:Nat} {toks:List Bytes} {w:World} {r:Option (Unit × (List Ck.Node × List Bytes))} (h:QS S a toks w) (hk:Hid (nk (S.l.drop a)=15)) (HM:Hid (qStatement q (S.l.drop a,toks)=some r)) :
  Calls Tryz.prog 157 #[.pointer (some ⟨S.bp,0,none⟩)] w (VOut S w unitV r):=by
 unfold qStatement at HM
 have p0:=Pf.refl S.bp w
 have HM0:=q_kind HM
 clear HM
 simp only[hk.out]at HM0
 have kt:Hid True:=trivial
 have HM1:=q_ite_neg (by decide) HM0
 clear HM0
 have HM2:=q_ite_neg (by decide) HM1
 clear HM1
 have HM3:=q_ite_neg (by decide) HM2
 clear HM2
 have HM4:=q_ite_neg (by decide) HM3
 clear HM3
 have HM5:=q_ite_neg (by decide) HM4
 clear HM4
 have HM6:=q_ite_neg (by decide) HM5
 clear HM5
 have HM7:=q_ite_pos (by decide) HM6
 clear HM6
 go_enter Tryz.func157,Tryz.ntmps157
 go_upto_if 87 with(first
   | (go_at_call 74;refine(q_kindk h hk kt).mono ?_;rintro e w8 ⟨rfl,h8,pf8⟩;have p8:=p0.trans pf8;clear kt)
   | (go_at_call 75;refine(q_next h8 HM7).mono ?_;rintro e w9 (⟨rfl,hr,pf9⟩|⟨n,a9,rfl,hin9,hk9,h9,pf9,HM9⟩);exact⟨rfl,VOut.pan hr (p8.trans pf9)⟩;have p9:=p8.trans pf9;have ok9:=h9.ok _ hin9;clear HM7;have bxn:=Blk.new w9 #[.int .i64 n.kind,.int .i64 n.at',.int .i64 n.kids,.string ⟨n.text.toArray⟩,.int .i64 n.int,.int .u64 n.bits] 40;obtain⟨ncn,nzn,nsetn,nbn⟩:=bxn.rules;have hnen:w9.heap.size≠S.bp:=(by have:=h9.lt;omega);have h10:=h9.alloc (.cells #[.int .i64 n.kind,.int .i64 n.at',.int .i64 n.kids,.string ⟨n.text.toArray⟩,.int .i64 n.int,.int .u64 n.bits] 40);have p10:=p9.trans (QS.fr0 h9 ((Fr.refl _ _).alloc (.cells #[.int .i64 n.kind,.int .i64 n.at',.int .i64 n.kids,.string ⟨n.text.toArray⟩,.int .i64 n.int,.int .u64 n.bits] 40))))
   | (go_at_call 48;refine(fit_any (decide (n.kids≤1)) _).mono ?_;rintro e w11 (⟨hb11,rfl,rfl⟩|⟨hb11,rfl,rfl⟩);have HM11:=(q_fit HM9).1 hb11;rotate_left;exact⟨rfl,VOut.pan ((q_fit HM9).2 hb11) p10⟩;clear HM9)
   | (go_at_call 76;refine(q_putc (l:=[[114,101,116,117,114,110]]) h10 HM11 rfl (by simp) (by first|rfl|simp)).mono ?_;rintro e w12 ⟨rfl,h12,pf12,HM12⟩;have p12:=p10.trans pf12;have bxn:=QS.blkOn h10 pf12 bxn (by decide) hnen;obtain⟨ncn,nzn,nsetn,nbn⟩:=bxn.rules;clear HM11))
 cases c1:(n.kids==1)
 rotate_left
 ·skip
  have HM13:=q_ite_pos c1 HM12
  clear HM12
  go_wp2_with (first
    | (go_at_call 187;refine(q_call ihe h12 HM13).mono ?_;rintro e w14 (⟨rfl,hr,pf14⟩|⟨u14,a14,toks14,rfl,h14,pf14,HM14⟩);exact⟨rfl,VOut.pan hr (p12.trans pf14)⟩;simp only[unitV];have p14:=p12.trans pf14;have bxn:=QS.blkOn h12 pf14 bxn (by decide) hnen;obtain⟨ncn,nzn,nsetn,nbn⟩:=bxn.rules;clear HM13)
    | (go_at_call 76;refine(q_putc (l:=[[59]]) h14 (q_last HM14) rfl (by simp) (by first|rfl|simp)).mono ?_;rintro e w15 ⟨rfl,h15,pf15,HM15⟩;have p15:=p14.trans pf15;have bxn:=QS.blkOn h14 pf15 bxn (by decide) hnen;obtain⟨ncn,nzn,nsetn,nbn⟩:=bxn.rules;clear HM14))
  go_end0
  exact VOut.ret (y:=()) HM15 h15 p15
 ·skip
  have HM13:=q_ite_neg (by simp[c1]) HM12
  clear HM12
  go_wp2_with (first
    | (go_at_call 76;refine(q_putc (l:=[[59]]) h12 (q_last HM13) rfl (by simp) (by first|rfl|simp)).mono ?_;rintro e w14 ⟨rfl,h14,pf14,HM14⟩;have p14:=p12.trans pf14;have bxn:=QS.blkOn h12 pf14 bxn (by decide) hnen;obtain⟨ncn,nzn,nsetn,nbn⟩:=bxn.rules;clear HM13))
  go_end0
  exact VOut.ret (y:=()) HM14 h14 p14
theorem qst16 {q:PRec} (ihe:QAny 187 S q.expr) (ihc:QAny 190 S q.choice) (ihl:QAny 191 S q.loop) {a:Nat} {toks:List Bytes} {w:World} {r:Option (Unit × (List Ck.Node × List Bytes))} (h:QS S a toks w) (hk:Hid (nk (S.l.drop a)=16)) (HM:Hid (qStatement q (S.l.drop a,toks)=some r)) :
  Calls Tryz.prog 157 #[.pointer (some ⟨S.bp,0,none⟩)] w (VOut S w unitV r):=by
 unfold qStatement at HM
 have p0:=Pf.refl S.bp w
 have HM0:=q_kind HM
 clear HM
 simp only[hk.out]at HM0
 have kt:Hid True:=trivial
 have HM1:=q_ite_neg (by decide) HM0
 clear HM0
 have HM2:=q_ite_neg (by decide) HM1
 clear HM1
 have HM3:=q_ite_neg (by decide) HM2
 clear HM2
 have HM4:=q_ite_neg (by decide) HM3
 clear HM3
 have HM5:=q_ite_neg (by decide) HM4
 clear HM4
 have HM6:=q_ite_neg (by decide) HM5
 clear HM5
 have HM7:=q_ite_neg (by decide) HM6
 clear HM6
 have HM8:=q_ite_pos (by decide) HM7
 clear HM7
 go_enter Tryz.func157,Tryz.ntmps157
 go_wp2_with (first
   | (go_at_call 74;refine(q_kindk h hk kt).mono ?_;rintro e w9 ⟨rfl,h9,pf9⟩;have p9:=p0.trans pf9;clear kt)
   | (go_at_call 188;refine(q_call (qbare_any 16 1) h9 HM8).mono ?_;rintro e w10 (⟨rfl,hr,pf10⟩|⟨u10,a10,toks10,rfl,h10,pf10,HM10⟩);exact⟨rfl,VOut.pan hr (p9.trans pf10)⟩;simp only[unitV];have p10:=p9.trans pf10;clear HM8)
   | (go_at_call 76;refine(q_putc (l:=[[111,117,116]]) h10 HM10 rfl (by simp) (by first|rfl|simp)).mono ?_;rintro e w11 ⟨rfl,h11,pf11,HM11⟩;have p11:=p10.trans pf11;clear HM10)
   | (go_at_call 187;refine(q_call ihe h11 HM11).mono ?_;rintro e w12 (⟨rfl,hr,pf12⟩|⟨u12,a12,toks12,rfl,h12,pf12,HM12⟩);exact⟨rfl,VOut.pan hr (p11.trans pf12)⟩;simp only[unitV];have p12:=p11.trans pf12;clear HM11)
   | (go_at_call 76;refine(q_putc (l:=[[59]]) h12 (q_last HM12) rfl (by simp) (by first|rfl|simp)).mono ?_;rintro e w13 ⟨rfl,h13,pf13,HM13⟩;have p13:=p12.trans pf13;clear HM12))
 go_end0
 exact VOut.ret (y:=()) HM13 h13 p13
theorem qst17 {q:PRec} (ihe:QAny 187 S q.expr) (ihc:QAny 190 S q.choice) (ihl:QAny 191 S q.loop) {a:Nat} {toks:List Bytes} {w:World} {r:Option (Unit × (List Ck.Node × List Bytes))} (h:QS S a toks w) {kk:Int} (hk:Hid (nk (S.l.drop a)=kk)) (e6:(kk==6)=false) (e7:(kk==7)=false) (e8:(kk==8)=false) (e9:(kk==9)=false) (e10:(kk==10)=false) (e11:(kk==11)=false) (e13:(kk==13)=false) (e14:(kk==14)=false) (e15:(kk==15)=false) (e16:(kk==16)=false) (HM:Hid (qStatement q (S.l.drop a,toks)=some r)) :
  Calls Tryz.prog 157 #[.pointer (some ⟨S.bp,0,none⟩)] w (VOut S w unitV r):=by
 unfold qStatement at HM
 have p0:=Pf.refl S.bp w
 have HM0:=q_kind HM
 clear HM
 simp only[hk.out]at HM0
 have kt:Hid True:=trivial
 have HM1:=q_ite_neg (by simp[e6]) HM0
 clear HM0
 have HM2:=q_ite_neg (by simp[e7]) HM1
 clear HM1
 have HM3:=q_ite_neg (by simp[e8]) HM2
 clear HM2
 have HM4:=q_ite_neg (by simp[e9]) HM3
 clear HM3
 have HM5:=q_ite_neg (by simp[e10,e11]) HM4
 clear HM4
 have HM6:=q_ite_neg (by simp[e13,e14]) HM5
 clear HM5
 have HM7:=q_ite_neg (by simp[e15]) HM6
 clear HM6
 have HM8:=q_ite_neg (by simp[e16]) HM7
 clear HM7
 go_enter Tryz.func157,Tryz.ntmps157
 go_wp2_with (first
   | (go_at_call 74;refine(q_kindk h hk kt).mono ?_;rintro e w9 ⟨rfl,h9,pf9⟩;have p9:=p0.trans pf9;clear kt)
   | (go_at_call 188;refine(q_call (qbare_any 17 1) h9 HM8).mono ?_;rintro e w10 (⟨rfl,hr,pf10⟩|⟨u10,a10,toks10,rfl,h10,pf10,HM10⟩);exact⟨rfl,VOut.pan hr (p9.trans pf10)⟩;simp only[unitV];have p10:=p9.trans pf10;clear HM8)
   | (go_at_call 187;refine(q_call ihe h10 HM10).mono ?_;rintro e w11 (⟨rfl,hr,pf11⟩|⟨u11,a11,toks11,rfl,h11,pf11,HM11⟩);exact⟨rfl,VOut.pan hr (p10.trans pf11)⟩;simp only[unitV];have p11:=p10.trans pf11;clear HM10)
   | (go_at_call 76;refine(q_putc (l:=[[59]]) h11 (q_last HM11) rfl (by simp) (by first|rfl|simp)).mono ?_;rintro e w12 ⟨rfl,h12,pf12,HM12⟩;have p12:=p11.trans pf12;clear HM11))
 go_end0
 exact VOut.ret (y:=()) HM12 h12 p12
theorem qstatement_any {q:PRec} (ihe:QAny 187 S q.expr) (ihc:QAny 190 S q.choice) (ihl:QAny 191 S q.loop):QAny 157 S (qStatement q):=by
 intro a toks w r h HM
 obtain⟨kk,hk⟩:∃kk,Hid (nk (S.l.drop a)=kk):=⟨_,rfl⟩
 cases e6:(kk==6)
 rotate_left
 ·obtain rfl:kk=6:=by simpa using e6
  exact qst6 ihe ihc ihl h hk HM
 cases e7:(kk==7)
 rotate_left
 ·obtain rfl:kk=7:=by simpa using e7
  exact qst7 ihe ihc ihl h hk HM
 cases e8:(kk==8)
 rotate_left
 ·obtain rfl:kk=8:=by simpa using e8
  exact qst8 ihe ihc ihl h hk HM
 cases e9:(kk==9)
 rotate_left
 ·obtain rfl:kk=9:=by simpa using e9
  exact qst9 ihe ihc ihl h hk HM
 cases e10:(kk==10)
 rotate_left
 ·obtain rfl:kk=10:=by simpa using e10
  exact qst10 ihe ihc ihl h hk HM
 cases e11:(kk==11)
 rotate_left
 ·obtain rfl:kk=11:=by simpa using e11
  exact qst11 ihe ihc ihl h hk HM
 cases e13:(kk==13)
 rotate_left
 ·obtain rfl:kk=13:=by simpa using e13
  exact qst13 ihe ihc ihl h hk HM
 cases e14:(kk==14)
 rotate_left
 ·obtain rfl:kk=14:=by simpa using e14
  exact qst14 ihe ihc ihl h hk HM
 cases e15:(kk==15)
 rotate_left
 ·obtain rfl:kk=15:=by simpa using e15
  exact qst15 ihe ihc ihl h hk HM
 cases e16:(kk==16)
 rotate_left
 ·obtain rfl:kk=16:=by simpa using e16
  exact qst16 ihe ihc ihl h hk HM
 exact qst17 ihe ihc ihl h hk e6 e7 e8 e9 e10 e11 e13 e14 e15 e16 HM
end
end Go.Proofs.YtoomapkcoibmhaaGreatDoor
end
