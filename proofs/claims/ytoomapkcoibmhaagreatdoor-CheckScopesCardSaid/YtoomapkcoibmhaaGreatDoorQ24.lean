/- A part of the proof. -/
import Derived.Deep.RegionHeld2
import Derived.Deep.RegionWith
import Derived.Test.YtoomapkcoibmhaaGreatDoorQ20
import Derived.Test.YtoomapkcoibmhaaGreatDoorQ23
set_option maxRecDepth 100000
set_option maxHeartbeats 12800000
set_option linter.all false
section
open Go Go.Proofs Go.RowKit Ck
namespace Go.Proofs.YtoomapkcoibmhaaGreatDoor
section
variable {S:QSt}
theorem q_put_len {β:Type} {x:Bytes} {rest:List Ck.Node} {toks:List Bytes} {k:Unit→Pr β} {r:Option (β × (List Ck.Node × List Bytes))} (h:Hid ((put [x] >>= k) (rest,toks)=some r)):x.length≤1099511627776:=by
 have:=(q_put h).1
 rw[tw_append,tw_cons]at this
 unfold wlim at this
 omega
def argsHead (q:PRec):Nat→Pr Unit
 | 0=>pure ()
 | m+1=>do
  q.expr
  argsP q m
theorem q_assoc2 {α γ β δ:Type} {x:Pr α} {f:α→Pr γ} {k:α→γ→Pr δ} {g:δ→Pr β} {st:List Ck.Node × List Bytes} {r:Option (β × (List Ck.Node × List Bytes))} (h:Hid (((x >>= fun y=>f y >>= fun z=>k y z) >>= g) st=some r)):Hid ((x >>= fun y=>f y >>= fun z=>k y z >>= g) st=some r):=by
 have h1:=(q_assoc h).out
 show _=_
 rw[←h1]
 simp only[Pr.bind_eq,Pr.bind]
 cases x st with
 | none=>rfl
 | some o =>
  cases o with
  | none=>rfl
  | some p =>
   obtain⟨y,s1⟩:=p
   simp only
   cases f y s1 with
   | none=>rfl
   | some o=>cases o<;>rfl
theorem quote_ge (s:Bytes):s.length≤(quote s).length:=by
 have h1:∀c,1≤(quote1 c).length:=fun c=>by
  unfold quote1
  repeat (split;· simp)
  simp
 have:∀s:Bytes,s.length≤(s.flatMap quote1).length:=by
  intro s
  induction s with
  | nil=>simp
  | cons c s ih=>have:=h1 c;rw[List.flatMap_cons,List.length_append,List.length_cons];omega
 have:=this s
 simp only[quote,List.length_cons,List.length_append,List.length_nil]
 omega
theorem qex18 {q:PRec} (ihe:QAny 187 S q.expr) {a:Nat} {toks:List Bytes} {w:World} {r:Option (Unit × (List Ck.Node × List Bytes))} (h:QS S a toks w) (hk:Hid (nk (S.l.drop a)=18)) (HM:Hid (qExpr q (S.l.drop a,toks)=some r)) :
  Calls Tryz.prog 187 #[.pointer (some ⟨S.bp,0,none⟩)] w (VOut S w unitV r):=by
 unfold qExpr at HM
 have p0:=Pf.refl S.bp w
 have HM0:=q_kind HM
 clear HM
 simp only[hk.out]at HM0
 have kt:Hid True:=trivial
 have HM1:=q_ite_pos (by decide) HM0
 clear HM0
 go_enter Tryz.func187,Tryz.ntmps187
 go_wp2_with (first
   | (go_at_call 74;refine(q_kindk h hk kt).mono ?_;rintro e w2 ⟨rfl,h2,pf2⟩;have p2:=p0.trans pf2;clear kt)
   | (go_at_call 188;refine(q_call (qbare_any 18 2) h2 HM1).mono ?_;rintro e w3 (⟨rfl,hr,pf3⟩|⟨u3,a3,toks3,rfl,h3,pf3,HM3⟩);exact⟨rfl,VOut.pan hr (p2.trans pf3)⟩;simp only[unitV];have p3:=p2.trans pf3;clear HM1)
   | (go_at_call 218;refine(q_call (qpair_any ihe [111,114]) h3 (q_last HM3)).mono ?_;rintro e w4 (⟨rfl,hr,pf4⟩|⟨u4,a4,toks4,rfl,h4,pf4,HM4⟩);exact⟨rfl,VOut.pan hr (p3.trans pf4)⟩;simp only[unitV];have p4:=p3.trans pf4;clear HM3))
 go_end0
 exact VOut.ret (y:=()) HM4 h4 p4
theorem qex19 {q:PRec} (ihe:QAny 187 S q.expr) {a:Nat} {toks:List Bytes} {w:World} {r:Option (Unit × (List Ck.Node × List Bytes))} (h:QS S a toks w) (hk:Hid (nk (S.l.drop a)=19)) (HM:Hid (qExpr q (S.l.drop a,toks)=some r)) :
  Calls Tryz.prog 187 #[.pointer (some ⟨S.bp,0,none⟩)] w (VOut S w unitV r):=by
 unfold qExpr at HM
 have p0:=Pf.refl S.bp w
 have HM0:=q_kind HM
 clear HM
 simp only[hk.out]at HM0
 have kt:Hid True:=trivial
 have HM1:=q_ite_pos (by decide) HM0
 clear HM0
 go_enter Tryz.func187,Tryz.ntmps187
 go_wp2_with (first
   | (go_at_call 74;refine(q_kindk h hk kt).mono ?_;rintro e w2 ⟨rfl,h2,pf2⟩;have p2:=p0.trans pf2;clear kt)
   | (go_at_call 188;refine(q_call (qbare_any 19 2) h2 HM1).mono ?_;rintro e w3 (⟨rfl,hr,pf3⟩|⟨u3,a3,toks3,rfl,h3,pf3,HM3⟩);exact⟨rfl,VOut.pan hr (p2.trans pf3)⟩;simp only[unitV];have p3:=p2.trans pf3;clear HM1)
   | (go_at_call 218;refine(q_call (qpair_any ihe [97,110,100]) h3 (q_last HM3)).mono ?_;rintro e w4 (⟨rfl,hr,pf4⟩|⟨u4,a4,toks4,rfl,h4,pf4,HM4⟩);exact⟨rfl,VOut.pan hr (p3.trans pf4)⟩;simp only[unitV];have p4:=p3.trans pf4;clear HM3))
 go_end0
 exact VOut.ret (y:=()) HM4 h4 p4
theorem qex20 {q:PRec} (ihe:QAny 187 S q.expr) {a:Nat} {toks:List Bytes} {w:World} {r:Option (Unit × (List Ck.Node × List Bytes))} (h:QS S a toks w) (hk:Hid (nk (S.l.drop a)=20)) (HM:Hid (qExpr q (S.l.drop a,toks)=some r)) :
  Calls Tryz.prog 187 #[.pointer (some ⟨S.bp,0,none⟩)] w (VOut S w unitV r):=by
 unfold qExpr at HM
 have p0:=Pf.refl S.bp w
 have HM0:=q_kind HM
 clear HM
 simp only[hk.out]at HM0
 have kt:Hid True:=trivial
 have HM1:=q_ite_neg (by decide) HM0
 clear HM0
 have HM2:=q_ite_pos (by decide) HM1
 clear HM1
 go_enter Tryz.func187,Tryz.ntmps187
 go_wp2_with (first
   | (go_at_call 74;refine(q_kindk h hk kt).mono ?_;rintro e w3 ⟨rfl,h3,pf3⟩;have p3:=p0.trans pf3;clear kt)
   | (go_at_call 188;refine(q_call (qbare_any 20 1) h3 HM2).mono ?_;rintro e w4 (⟨rfl,hr,pf4⟩|⟨u4,a4,toks4,rfl,h4,pf4,HM4⟩);exact⟨rfl,VOut.pan hr (p3.trans pf4)⟩;simp only[unitV];have p4:=p3.trans pf4;clear HM2)
   | (go_at_call 76;refine(q_putc (l:=[[40],[110,111,116]]) h4 HM4 rfl (by simp) (by first|rfl|simp)).mono ?_;rintro e w5 ⟨rfl,h5,pf5,HM5⟩;have p5:=p4.trans pf5;clear HM4)
   | (go_at_call 187;refine(q_call ihe h5 HM5).mono ?_;rintro e w6 (⟨rfl,hr,pf6⟩|⟨u6,a6,toks6,rfl,h6,pf6,HM6⟩);exact⟨rfl,VOut.pan hr (p5.trans pf6)⟩;simp only[unitV];have p6:=p5.trans pf6;clear HM5)
   | (go_at_call 76;refine(q_putc (l:=[[41]]) h6 (q_last HM6) rfl (by simp) (by first|rfl|simp)).mono ?_;rintro e w7 ⟨rfl,h7,pf7,HM7⟩;have p7:=p6.trans pf7;clear HM6))
 go_end0
 exact VOut.ret (y:=()) HM7 h7 p7
theorem qex21 {q:PRec} (ihe:QAny 187 S q.expr) {a:Nat} {toks:List Bytes} {w:World} {r:Option (Unit × (List Ck.Node × List Bytes))} (h:QS S a toks w) (hk:Hid (nk (S.l.drop a)=21)) (HM:Hid (qExpr q (S.l.drop a,toks)=some r)) :
  Calls Tryz.prog 187 #[.pointer (some ⟨S.bp,0,none⟩)] w (VOut S w unitV r):=by
 unfold qExpr at HM
 have p0:=Pf.refl S.bp w
 have HM0:=q_kind HM
 clear HM
 simp only[hk.out]at HM0
 have kt:Hid True:=trivial
 have HM1:=q_ite_neg (by decide) HM0
 clear HM0
 have HM2:=q_ite_neg (by decide) HM1
 clear HM1
 have HM3:=q_ite_pos (by decide) HM2
 clear HM2
 go_enter Tryz.func187,Tryz.ntmps187
 go_upto_region 18 with(first
   | (go_at_call 74;refine(q_kindk h hk kt).mono ?_;rintro e w4 ⟨rfl,h4,pf4⟩;have p4:=p0.trans pf4;clear kt)
   | (go_at_call 75;refine(q_next h4 HM3).mono ?_;rintro e w5 (⟨rfl,hr,pf5⟩|⟨n,a5,rfl,hin5,hk5,h5,pf5,HM5⟩);exact⟨rfl,VOut.pan hr (p4.trans pf5)⟩;have p5:=p4.trans pf5;have ok5:=h5.ok _ hin5;clear HM3;have bxn:=Blk.new w5 #[.int .i64 n.kind,.int .i64 n.at',.int .i64 n.kids,.string ⟨n.text.toArray⟩,.int .i64 n.int,.int .u64 n.bits] 40;obtain⟨ncn,nzn,nsetn,nbn⟩:=bxn.rules;have hnen:w5.heap.size≠S.bp:=(by have:=h5.lt;omega);have h6:=h5.alloc (.cells #[.int .i64 n.kind,.int .i64 n.at',.int .i64 n.kids,.string ⟨n.text.toArray⟩,.int .i64 n.int,.int .u64 n.bits] 40);have p6:=p5.trans (QS.fr0 h5 ((Fr.refl _ _).alloc (.cells #[.int .i64 n.kind,.int .i64 n.at',.int .i64 n.kids,.string ⟨n.text.toArray⟩,.int .i64 n.int,.int .u64 n.bits] 40)))))
 obtain⟨bx,hbx⟩:∃b,b=w5.heap.size:=⟨_,rfl⟩
 rw[←hbx]at ncn ⊢
 have HBX:=Lib.hid hbx
 have bx5:=bxn
 rw[←hbx]at bx5
 clear hbx
 have hS:(fun X:World=>X.cell? ⟨bx,2,none⟩=some (.int .i64 n.kids)∧X.cell? ⟨bx,3,none⟩=some (.string ⟨n.text.toArray⟩)) (w5.alloc (.cells #[.int .i64 n.kind,.int .i64 n.at',.int .i64 n.kids,.string ⟨n.text.toArray⟩,.int .i64 n.int,.int .u64 n.bits] 40)).drew:=⟨by rw[World.cell?_drew,ncn];rfl,by rw[World.cell?_drew,ncn];rfl⟩
 refine wp_region_held (S:=fun X:World=>X.cell? ⟨bx,2,none⟩=some (.int .i64 n.kids)∧X.cell? ⟨bx,3,none⟩=some (.string ⟨n.text.toArray⟩)) (by kernel_rfl) ?_
 refine tk 0 (.pointer (some ⟨bx,2,none⟩)) rfl hS (fun X hX=>?_) ?_
 ·go_simp
 simp only[Act.put,acts]
 refine tk 1 (.int .i64 n.kids) rfl hS (fun X hX=>?_) ?_
 ·obtain⟨hX2,hX3⟩:=hX;go_simp
 simp only[Act.put,acts]
 cases c1:(n.kids==2)
 ·have hrn:=Lib.hid ((q_fit HM5).2 (by simp[c1]))
  refine tk 2 (.bool false) rfl hS (fun X hX=>?_) ?_
  ·go_simp
  simp only[Act.put,acts]
  refine tk 3 (.bool false) rfl hS (fun X hX=>?_) ?_
  ·go_simp
  simp only[Act.put,acts]
  refine tks 4 rfl hS ?_
  simp only[Act.put,acts]
  refine tks 5 rfl hS ?_
  simp only[Act.put,acts]
  refine tks 6 rfl hS ?_
  simp only[Act.put,acts]
  refine tks 7 rfl hS ?_
  simp only[Act.put,acts]
  refine tk 8 (.bool false) rfl hS (fun X hX=>?_) ?_
  ·go_simp
  simp only[Act.put,acts]
  refine wpAnyH_all (rs:=[9]) (by kernel_rfl) (by simp) ?_
  intro i hi
  obtain rfl:i=9:=by simpa using hi
  refine wpOp_step rfl (fun K hK=>?_)
  rw[if_pos (by rfl)]
  go_simp
  refine(fit_no _).mono ?_
  rintro e w9 ⟨rfl,rfl⟩
  exact⟨rfl,VOut.pan hrn.out (p6.trans (QS.fr0 h6 (Fr.refl _ _).drew))⟩
 ·obtain⟨bq,hbq⟩:∃b:Bool,Hid (b=Ck.binaries.contains n.text):=⟨_,rfl⟩
  have hcon:∀W v,StrSlice W v Ck.binaries→Calls Tryz.prog 61 #[v,.string ⟨n.text.toArray⟩] W (fun e w'=>e=.returned (.bool bq)∧W=w'):=fun W v h=>by rw[hbq.out];exact contains_any _ _ _ n.text h (by decide)
  refine tk 2 (.bool true) rfl hS (fun X hX=>?_) ?_
  ·go_simp
  simp only[Act.put,acts]
  refine tk 3 (.bool true) rfl hS (fun X hX=>?_) ?_
  ·go_simp
  simp only[Act.put,acts]
  refine tk 5 (.pointer (some ⟨bx,3,none⟩)) rfl hS (fun X hX=>?_) ?_
  ·go_simp
  simp only[Act.put,acts]
  refine tk 6 (.string ⟨n.text.toArray⟩) rfl hS (fun X hX=>?_) ?_
  ·obtain⟨hX2,hX3⟩:=hX;go_simp
  simp only[Act.put,acts]
  refine wpAnyH_all (rs:=[4]) (by kernel_rfl) (by simp) ?_
  intro i hi
  obtain rfl:i=4:=by simpa using hi
  refine wpOp_step rfl (fun K hK=>?_)
  rw[if_pos (by rfl)]
  go_simp
  refine(binaries_any _).mono ?_
  rintro e w7 ⟨sx,sm,sc,rfl,hf7,hss⟩
  have bx7:=bx5.drew.fr hf7 (by simp)
  have hS7:(fun X:World=>X.cell? ⟨bx,2,none⟩=some (.int .i64 n.kids)∧X.cell? ⟨bx,3,none⟩=some (.string ⟨n.text.toArray⟩)) w7:=⟨by rw[bx7.rules.1];rfl,by rw[bx7.rules.1];rfl⟩
  refine hK _ _ ⟨hS7,?_⟩
  clear hK K hS
  have hS:=hS7
  clear hS7
  refine wpAnyH_all (rs:=[7]) (by kernel_rfl) (by simp) ?_
  intro i hi
  obtain rfl:i=7:=by simpa using hi
  refine wpOp_step rfl (fun K hK=>?_)
  rw[if_pos (by rfl)]
  go_simp
  refine(hcon _ _ hss).mono ?_
  rintro e w8 ⟨rfl,rfl⟩
  refine hK _ _ ⟨hS,?_⟩
  clear hK K
  refine tk 8 (.bool bq) rfl hS (fun X hX=>?_) ?_
  ·go_simp
  simp only[Act.put,acts]
  refine wpAnyH_all (rs:=[9]) (by kernel_rfl) (by simp) ?_
  intro i hi
  obtain rfl:i=9:=by simpa using hi
  refine wpOp_step rfl (fun K hK=>?_)
  rw[if_pos (by rfl)]
  go_simp
  refine(fit_any bq _).mono ?_
  rintro e w9 (⟨hb,rfl,rfl⟩|⟨hb,rfl,rfl⟩)
  ·refine hK _ _ ⟨hS,wpAnyH_done (by kernel_rfl) ?_ _⟩
   clear hK K
   have HM7:=(q_fit HM5).1 (by rw[c1,←hbq.out,hb];rfl)
   clear HM5
   have h7:=h6.fr ((Fr.refl [] _).drew.trans hf7)
   have p7:=p6.trans (QS.fr0 h6 ((Fr.refl [] _).drew.trans hf7))
   have bxn:=bx7
   obtain⟨ncn,nzn,nsetn,nbn⟩:=bxn.rules
   have hnen:bx≠S.bp:=by rw[HBX.out];exact hnen
   go_wp2_with (first
     | (go_at_call 218;refine(q_call (qpair_any ihe n.text) h7 (q_last HM7)).mono ?_;rintro e w8 (⟨rfl,hr,pf8⟩|⟨u8,a8,toks8,rfl,h8,pf8,HM8⟩);exact⟨rfl,VOut.pan hr (p7.trans pf8)⟩;simp only[unitV];have p8:=p7.trans pf8;have bxn:=QS.blkOn h7 pf8 bxn (by decide) hnen;obtain⟨ncn,nzn,nsetn,nbn⟩:=bxn.rules;clear HM7))
   go_end0
   exact VOut.ret (y:=()) HM8 h8 p8
  ·have hrn:=(q_fit HM5).2 (by rw[c1,←hbq.out,hb];rfl)
   exact⟨rfl,VOut.pan hrn (p6.trans (QS.fr0 h6 ((Fr.refl [] _).drew.trans hf7)))⟩
theorem qex22 {q:PRec} (ihe:QAny 187 S q.expr) {a:Nat} {toks:List Bytes} {w:World} {r:Option (Unit × (List Ck.Node × List Bytes))} (h:QS S a toks w) (hk:Hid (nk (S.l.drop a)=22)) (HM:Hid (qExpr q (S.l.drop a,toks)=some r)) :
  Calls Tryz.prog 187 #[.pointer (some ⟨S.bp,0,none⟩)] w (VOut S w unitV r):=by
 unfold qExpr at HM
 have p0:=Pf.refl S.bp w
 have HM0:=q_kind HM
 clear HM
 simp only[hk.out]at HM0
 have kt:Hid True:=trivial
 have HM1:=q_ite_neg (by decide) HM0
 clear HM0
 have HM2:=q_ite_neg (by decide) HM1
 clear HM1
 have HM3:=q_ite_neg (by decide) HM2
 clear HM2
 have HM4:=q_ite_pos (by decide) HM3
 clear HM3
 go_enter Tryz.func187,Tryz.ntmps187
 go_upto_region 22 with(first
   | (go_at_call 74;refine(q_kindk h hk kt).mono ?_;rintro e w5 ⟨rfl,h5,pf5⟩;have p5:=p0.trans pf5;clear kt)
   | (go_at_call 75;refine(q_next h5 HM4).mono ?_;rintro e w6 (⟨rfl,hr,pf6⟩|⟨n,a6,rfl,hin6,hk6,h6,pf6,HM6⟩);exact⟨rfl,VOut.pan hr (p5.trans pf6)⟩;have p6:=p5.trans pf6;have ok6:=h6.ok _ hin6;clear HM4;have bxn:=Blk.new w6 #[.int .i64 n.kind,.int .i64 n.at',.int .i64 n.kids,.string ⟨n.text.toArray⟩,.int .i64 n.int,.int .u64 n.bits] 40;obtain⟨ncn,nzn,nsetn,nbn⟩:=bxn.rules;have hnen:w6.heap.size≠S.bp:=(by have:=h6.lt;omega);have h7:=h6.alloc (.cells #[.int .i64 n.kind,.int .i64 n.at',.int .i64 n.kids,.string ⟨n.text.toArray⟩,.int .i64 n.int,.int .u64 n.bits] 40);have p7:=p6.trans (QS.fr0 h6 ((Fr.refl _ _).alloc (.cells #[.int .i64 n.kind,.int .i64 n.at',.int .i64 n.kids,.string ⟨n.text.toArray⟩,.int .i64 n.int,.int .u64 n.bits] 40)))))
 cases c1:(n.kids==1)
 ·have hrn:=Lib.hid ((q_fit HM6).2 (by simp[c1]))
  go_wp2_with (first
    | (go_at_call 48;with_reducible refine(fit_no _).mono ?_;rintro e w8 ⟨rfl,rfl⟩))
  exact⟨rfl,VOut.pan hrn.out p7⟩
 cases c2:(n.text==[45])
 rotate_left
 ·skip
  have HM8:=(q_fit HM6).1 (by simp[c1,c2])
  clear HM6
  go_wp2_with (first
    | (go_at_call 48;with_reducible refine(fit_yes _).mono ?_;rintro e w9 ⟨rfl,rfl⟩)
    | (go_at_call 76;refine(q_putc (l:=[[40],n.text]) h7 HM8 rfl (by simp) (by first|rfl|simp)).mono ?_;rintro e w10 ⟨rfl,h10,pf10,HM10⟩;have p10:=p7.trans pf10;have bxn:=QS.blkOn h7 pf10 bxn (by decide) hnen;obtain⟨ncn,nzn,nsetn,nbn⟩:=bxn.rules;clear HM8)
    | (go_at_call 187;refine(q_call ihe h10 HM10).mono ?_;rintro e w11 (⟨rfl,hr,pf11⟩|⟨u11,a11,toks11,rfl,h11,pf11,HM11⟩);exact⟨rfl,VOut.pan hr (p10.trans pf11)⟩;simp only[unitV];have p11:=p10.trans pf11;have bxn:=QS.blkOn h10 pf11 bxn (by decide) hnen;obtain⟨ncn,nzn,nsetn,nbn⟩:=bxn.rules;clear HM10)
    | (go_at_call 76;refine(q_putc (l:=[[41]]) h11 (q_last HM11) rfl (by simp) (by first|rfl|simp)).mono ?_;rintro e w12 ⟨rfl,h12,pf12,HM12⟩;have p12:=p11.trans pf12;have bxn:=QS.blkOn h11 pf12 bxn (by decide) hnen;obtain⟨ncn,nzn,nsetn,nbn⟩:=bxn.rules;clear HM11))
  go_end0
  exact VOut.ret (y:=()) HM12 h12 p12
 cases c3:(n.text==[126])
 rotate_left
 ·skip
  have HM8:=(q_fit HM6).1 (by simp[c1,c2,c3])
  clear HM6
  go_wp2_with (first
    | (go_at_call 48;with_reducible refine(fit_yes _).mono ?_;rintro e w9 ⟨rfl,rfl⟩)
    | (go_at_call 76;refine(q_putc (l:=[[40],n.text]) h7 HM8 rfl (by simp) (by first|rfl|simp)).mono ?_;rintro e w10 ⟨rfl,h10,pf10,HM10⟩;have p10:=p7.trans pf10;have bxn:=QS.blkOn h7 pf10 bxn (by decide) hnen;obtain⟨ncn,nzn,nsetn,nbn⟩:=bxn.rules;clear HM8)
    | (go_at_call 187;refine(q_call ihe h10 HM10).mono ?_;rintro e w11 (⟨rfl,hr,pf11⟩|⟨u11,a11,toks11,rfl,h11,pf11,HM11⟩);exact⟨rfl,VOut.pan hr (p10.trans pf11)⟩;simp only[unitV];have p11:=p10.trans pf11;have bxn:=QS.blkOn h10 pf11 bxn (by decide) hnen;obtain⟨ncn,nzn,nsetn,nbn⟩:=bxn.rules;clear HM10)
    | (go_at_call 76;refine(q_putc (l:=[[41]]) h11 (q_last HM11) rfl (by simp) (by first|rfl|simp)).mono ?_;rintro e w12 ⟨rfl,h12,pf12,HM12⟩;have p12:=p11.trans pf12;have bxn:=QS.blkOn h11 pf12 bxn (by decide) hnen;obtain⟨ncn,nzn,nsetn,nbn⟩:=bxn.rules;clear HM11))
  go_end0
  exact VOut.ret (y:=()) HM12 h12 p12
 ·have hrn:=Lib.hid ((q_fit HM6).2 (by simp[c1,c2,c3]))
  go_wp2_with (first
    | (go_at_call 48;with_reducible refine(fit_no _).mono ?_;rintro e w8 ⟨rfl,rfl⟩))
  exact⟨rfl,VOut.pan hrn.out p7⟩
theorem qex23 {q:PRec} (ihe:QAny 187 S q.expr) {a:Nat} {toks:List Bytes} {w:World} {r:Option (Unit × (List Ck.Node × List Bytes))} (h:QS S a toks w) (hk:Hid (nk (S.l.drop a)=23)) (HM:Hid (qExpr q (S.l.drop a,toks)=some r)) :
  Calls Tryz.prog 187 #[.pointer (some ⟨S.bp,0,none⟩)] w (VOut S w unitV r):=by
 unfold qExpr at HM
 have p0:=Pf.refl S.bp w
 have HM0:=q_kind HM
 clear HM
 simp only[hk.out]at HM0
 have kt:Hid True:=trivial
 have HM1:=q_ite_neg (by decide) HM0
 clear HM0
 have HM2:=q_ite_neg (by decide) HM1
 clear HM1
 have HM3:=q_ite_neg (by decide) HM2
 clear HM2
 have HM4:=q_ite_neg (by decide) HM3
 clear HM3
 have HM5:=q_ite_pos (by decide) HM4
 clear HM4
 go_enter Tryz.func187,Tryz.ntmps187
 go_wp2_with (first
   | (go_at_call 74;refine(q_kindk h hk kt).mono ?_;rintro e w6 ⟨rfl,h6,pf6⟩;have p6:=p0.trans pf6;clear kt)
   | (go_at_call 75;refine(q_next h6 HM5).mono ?_;rintro e w7 (⟨rfl,hr,pf7⟩|⟨n,a7,rfl,hin7,hk7,h7,pf7,HM7⟩);exact⟨rfl,VOut.pan hr (p6.trans pf7)⟩;have p7:=p6.trans pf7;have ok7:=h7.ok _ hin7;clear HM5;have bxn:=Blk.new w7 #[.int .i64 n.kind,.int .i64 n.at',.int .i64 n.kids,.string ⟨n.text.toArray⟩,.int .i64 n.int,.int .u64 n.bits] 40;obtain⟨ncn,nzn,nsetn,nbn⟩:=bxn.rules;have hnen:w7.heap.size≠S.bp:=(by have:=h7.lt;omega);have h8:=h7.alloc (.cells #[.int .i64 n.kind,.int .i64 n.at',.int .i64 n.kids,.string ⟨n.text.toArray⟩,.int .i64 n.int,.int .u64 n.bits] 40);have p8:=p7.trans (QS.fr0 h7 ((Fr.refl _ _).alloc (.cells #[.int .i64 n.kind,.int .i64 n.at',.int .i64 n.kids,.string ⟨n.text.toArray⟩,.int .i64 n.int,.int .u64 n.bits] 40))))
   | (go_at_call 104;refine(q_namec h8 ok7.text HM7).mono ?_;rintro e w9 (⟨rfl,hr,pf9⟩|⟨rfl,h9,pf9,HM9⟩);exact⟨rfl,VOut.pan hr (p8.trans pf9)⟩;have p9:=p8.trans pf9;have bxn:=QS.blkOn h8 pf9 bxn (by decide) hnen;obtain⟨ncn,nzn,nsetn,nbn⟩:=bxn.rules;clear HM7)
   | (go_at_call 76;refine(q_putc (l:=[n.text,[40]]) h9 HM9 rfl (by simp) (by first|rfl|simp)).mono ?_;rintro e w10 ⟨rfl,h10,pf10,HM10⟩;have p10:=p9.trans pf10;have bxn:=QS.blkOn h9 pf10 bxn (by decide) hnen;obtain⟨ncn,nzn,nsetn,nbn⟩:=bxn.rules;clear HM9))
 have hmax:=ok7.kids
 obtain⟨N,hN⟩:∃N:Nat,n.kids=(N:Int):=⟨n.kids.toNat,(Int.toNat_of_nonneg hk7).symm⟩
 have HMN:Hid ((argsHead q N >>= fun _=>put [[41]]) (S.l.drop a7,(toks++[n.text,[40]]))=some r):=by have:=HM10;rw[hN]at this;exact this
 rw[hN]at hmax ⊢
 have hH:=h10;have hP:=p10
 clear HM10 hN hk7 ok7
 go_loopg [7,101] N (fun k _v c wr=>∃j:Nat,c=.int .i64 j∧Hid (j+k=N∧∃a toks,QS S a toks wr∧Pf S.bp w wr∧Hid (((if j=0 then argsHead q k else argsP q k) >>= fun _=>put [[41]]) (S.l.drop a,toks)=some r)))
 case atStart=>exact⟨0,rfl,by omega,_,_,hH,hP,HMN⟩
 case round =>
  clear hH hP HMN bxn ncn nzn nsetn nbn hnen
  obtain⟨j,rfl,hq⟩:=hrel
  obtain⟨hj,a,toks,h,p0,HM⟩:=hq.out
  clear hq
  cases gk with
  | zero =>
   have hlt:¬(j:Int)<N:=by omega
   have HM1:Hid (put [[41]] (S.l.drop a,toks)=some r):=by have:=HM;split at this<;>exact this
   clear HM
   go_wp2_with (first
     | (go_at_call 76;refine(q_putc (l:=[[41]]) h (q_last HM1) rfl (by simp) (by first|rfl|simp)).mono ?_;rintro e w2 ⟨rfl,h2,pf2,HM2⟩;have p2:=p0.trans pf2;clear HM1))
   go_end0
   exact VOut.ret (y:=()) HM2 h2 p2
  | succ k =>
   have hlt:(j:Int)<N:=by omega
   by_cases j0:j=0
   ·subst j0
    have HM1:Hid ((q.expr >>= fun _=>argsP q k >>= fun _=>put [[41]]) (S.l.drop a,toks)=some r):=q_assoc HM
    clear HM
    go_wp2_with (first
      | (go_at_call 187;refine(q_call ihe h HM1).mono ?_;rintro e w2 (⟨rfl,hr,pf2⟩|⟨u2,a2,toks2,rfl,h2,pf2,HM2⟩);exact⟨rfl,VOut.pan hr (p0.trans pf2)⟩;simp only[unitV];have p2:=p0.trans pf2;clear HM1))
    go_roundg k
    case measure=>omega
    case rel=>exact⟨1,by go_num,by omega,_,_,h2,p2,HM2⟩
   ·have hj0:(0:Int)<j:=by omega
    have HM1:Hid ((put [[44]] >>= fun _=>q.expr >>= fun _=>argsP q k >>= fun _=>put [[41]]) (S.l.drop a,toks)=some r):=by rw[if_neg j0]at HM;exact q_assoc2 HM
    clear HM
    go_wp2_with (first
      | (go_at_call 76;refine(q_putc (l:=[[44]]) h HM1 rfl (by simp) (by first|rfl|simp)).mono ?_;rintro e w2 ⟨rfl,h2,pf2,HM2⟩;have p2:=p0.trans pf2;clear HM1)
      | (go_at_call 187;refine(q_call ihe h2 HM2).mono ?_;rintro e w3 (⟨rfl,hr,pf3⟩|⟨u3,a3,toks3,rfl,h3,pf3,HM3⟩);exact⟨rfl,VOut.pan hr (p2.trans pf3)⟩;simp only[unitV];have p3:=p2.trans pf3;clear HM2))
    go_roundg k
    case measure=>omega
    case rel=>exact⟨j+1,by go_num,by omega,_,_,h3,p3,by rw[if_neg (by omega)];exact HM3⟩
theorem qex24 {q:PRec} (ihe:QAny 187 S q.expr) {a:Nat} {toks:List Bytes} {w:World} {r:Option (Unit × (List Ck.Node × List Bytes))} (h:QS S a toks w) (hk:Hid (nk (S.l.drop a)=24)) (HM:Hid (qExpr q (S.l.drop a,toks)=some r)) :
  Calls Tryz.prog 187 #[.pointer (some ⟨S.bp,0,none⟩)] w (VOut S w unitV r):=by
 unfold qExpr at HM
 have p0:=Pf.refl S.bp w
 have HM0:=q_kind HM
 clear HM
 simp only[hk.out]at HM0
 have kt:Hid True:=trivial
 have HM1:=q_ite_neg (by decide) HM0
 clear HM0
 have HM2:=q_ite_neg (by decide) HM1
 clear HM1
 have HM3:=q_ite_neg (by decide) HM2
 clear HM2
 have HM4:=q_ite_neg (by decide) HM3
 clear HM3
 have HM5:=q_ite_neg (by decide) HM4
 clear HM4
 have HM6:=q_ite_pos (by decide) HM5
 clear HM5
 go_enter Tryz.func187,Tryz.ntmps187
 go_wp2_with (first
   | (go_at_call 74;refine(q_kindk h hk kt).mono ?_;rintro e w7 ⟨rfl,h7,pf7⟩;have p7:=p0.trans pf7;clear kt)
   | (go_at_call 188;refine(q_call (qbare_any 24 2) h7 HM6).mono ?_;rintro e w8 (⟨rfl,hr,pf8⟩|⟨u8,a8,toks8,rfl,h8,pf8,HM8⟩);exact⟨rfl,VOut.pan hr (p7.trans pf8)⟩;simp only[unitV];have p8:=p7.trans pf8;clear HM6)
   | (go_at_call 189;refine(q_call (qindexed_any ihe) h8 (q_last HM8)).mono ?_;rintro e w9 (⟨rfl,hr,pf9⟩|⟨u9,a9,toks9,rfl,h9,pf9,HM9⟩);exact⟨rfl,VOut.pan hr (p8.trans pf9)⟩;simp only[unitV];have p9:=p8.trans pf9;clear HM8))
 go_end0
 exact VOut.ret (y:=()) HM9 h9 p9
theorem qex25 {q:PRec} (ihe:QAny 187 S q.expr) {a:Nat} {toks:List Bytes} {w:World} {r:Option (Unit × (List Ck.Node × List Bytes))} (h:QS S a toks w) (hk:Hid (nk (S.l.drop a)=25)) (HM:Hid (qExpr q (S.l.drop a,toks)=some r)) :
  Calls Tryz.prog 187 #[.pointer (some ⟨S.bp,0,none⟩)] w (VOut S w unitV r):=by
 unfold qExpr at HM
 have p0:=Pf.refl S.bp w
 have HM0:=q_kind HM
 clear HM
 simp only[hk.out]at HM0
 have kt:Hid True:=trivial
 have HM1:=q_ite_neg (by decide) HM0
 clear HM0
 have HM2:=q_ite_neg (by decide) HM1
 clear HM1
 have HM3:=q_ite_neg (by decide) HM2
 clear HM2
 have HM4:=q_ite_neg (by decide) HM3
 clear HM3
 have HM5:=q_ite_neg (by decide) HM4
 clear HM4
 have HM6:=q_ite_neg (by decide) HM5
 clear HM5
 have HM7:=q_ite_pos (by decide) HM6
 clear HM6
 go_enter Tryz.func187,Tryz.ntmps187
 go_wp2_with (first
   | (go_at_call 74;refine(q_kindk h hk kt).mono ?_;rintro e w8 ⟨rfl,h8,pf8⟩;have p8:=p0.trans pf8;clear kt)
   | (go_at_call 77;refine(q_call (qnamed_any 25 0) h8 HM7).mono ?_;rintro e w9 (⟨rfl,hr,pf9⟩|⟨x,a9,toks9,rfl,h9,pf9,HM9⟩);exact⟨rfl,VOut.pan hr (p8.trans pf9)⟩;simp only[strV];have p9:=p8.trans pf9;clear HM7)
   | (go_at_call 76;refine(q_putc (l:=[x]) h9 (q_last HM9) rfl (by simp) (by first|rfl|simp)).mono ?_;rintro e w10 ⟨rfl,h10,pf10,HM10⟩;have p10:=p9.trans pf10;clear HM9))
 go_end0
 exact VOut.ret (y:=()) HM10 h10 p10
theorem qex26 {q:PRec} (ihe:QAny 187 S q.expr) {a:Nat} {toks:List Bytes} {w:World} {r:Option (Unit × (List Ck.Node × List Bytes))} (h:QS S a toks w) (hk:Hid (nk (S.l.drop a)=26)) (HM:Hid (qExpr q (S.l.drop a,toks)=some r)) :
  Calls Tryz.prog 187 #[.pointer (some ⟨S.bp,0,none⟩)] w (VOut S w unitV r):=by
 unfold qExpr at HM
 have p0:=Pf.refl S.bp w
 have HM0:=q_kind HM
 clear HM
 simp only[hk.out]at HM0
 have kt:Hid True:=trivial
 have HM1:=q_ite_neg (by decide) HM0
 clear HM0
 have HM2:=q_ite_neg (by decide) HM1
 clear HM1
 have HM3:=q_ite_neg (by decide) HM2
 clear HM2
 have HM4:=q_ite_neg (by decide) HM3
 clear HM3
 have HM5:=q_ite_neg (by decide) HM4
 clear HM4
 have HM6:=q_ite_neg (by decide) HM5
 clear HM5
 have HM7:=q_ite_neg (by decide) HM6
 clear HM6
 have HM8:=q_ite_pos (by decide) HM7
 clear HM7
 go_enter Tryz.func187,Tryz.ntmps187
 go_upto_region 44 with(first
   | (go_at_call 74;refine(q_kindk h hk kt).mono ?_;rintro e w9 ⟨rfl,h9,pf9⟩;have p9:=p0.trans pf9;clear kt)
   | (go_at_call 75;refine(q_next h9 HM8).mono ?_;rintro e w10 (⟨rfl,hr,pf10⟩|⟨n,a10,rfl,hin10,hk10,h10,pf10,HM10⟩);exact⟨rfl,VOut.pan hr (p9.trans pf10)⟩;have p10:=p9.trans pf10;have ok10:=h10.ok _ hin10;clear HM8;have bxn:=Blk.new w10 #[.int .i64 n.kind,.int .i64 n.at',.int .i64 n.kids,.string ⟨n.text.toArray⟩,.int .i64 n.int,.int .u64 n.bits] 40;obtain⟨ncn,nzn,nsetn,nbn⟩:=bxn.rules;have hnen:w10.heap.size≠S.bp:=(by have:=h10.lt;omega);have h11:=h10.alloc (.cells #[.int .i64 n.kind,.int .i64 n.at',.int .i64 n.kids,.string ⟨n.text.toArray⟩,.int .i64 n.int,.int .u64 n.bits] 40);have p11:=p10.trans (QS.fr0 h10 ((Fr.refl _ _).alloc (.cells #[.int .i64 n.kind,.int .i64 n.at',.int .i64 n.kids,.string ⟨n.text.toArray⟩,.int .i64 n.int,.int .u64 n.bits] 40)))))
 cases c1:(n.kids==0)
 ·have hrn:=Lib.hid ((q_fit HM10).2 (by simp[c1]))
  go_wp2_with (first
    | (go_at_call 48;with_reducible refine(fit_no _).mono ?_;rintro e w12 ⟨rfl,rfl⟩))
  exact⟨rfl,VOut.pan hrn.out p11⟩
 by_cases c2:0≤n.int
 ·skip
  have HM12:=(q_fit HM10).1 (by simp[c1,c2])
  clear HM10
  go_wp2_with (first
    | (go_at_call 48;with_reducible refine(fit_yes _).mono ?_;rintro e w13 ⟨rfl,rfl⟩)
    | (go_at_call 220;refine(numInt_any n.int _ h11.vars ok10.intL ok10.intH).mono ?_;rintro e w14 ⟨rfl,hf14⟩;have h14:=h11.fr hf14;have pf14:=QS.fr0 h11 hf14;have p14:=p11.trans pf14;have bxn:=QS.blkOn h11 pf14 bxn (by decide) hnen;obtain⟨ncn,nzn,nsetn,nbn⟩:=bxn.rules)
    | (go_at_call 76;refine(q_putc (l:=[decI n.int]) h14 (q_last HM12) rfl (by simp) (by first|rfl|simp)).mono ?_;rintro e w15 ⟨rfl,h15,pf15,HM15⟩;have p15:=p14.trans pf15;have bxn:=QS.blkOn h14 pf15 bxn (by decide) hnen;obtain⟨ncn,nzn,nsetn,nbn⟩:=bxn.rules;clear HM12))
  go_end0
  exact VOut.ret (y:=()) HM15 h15 p15
 ·have hrn:=Lib.hid ((q_fit HM10).2 (by simp[c1,c2]))
  have c3:n.int<0:=by omega
  go_wp2_with (first
    | (go_at_call 48;with_reducible refine(fit_no _).mono ?_;rintro e w12 ⟨rfl,rfl⟩))
  exact⟨rfl,VOut.pan hrn.out p11⟩
theorem qex27 {q:PRec} (ihe:QAny 187 S q.expr) {a:Nat} {toks:List Bytes} {w:World} {r:Option (Unit × (List Ck.Node × List Bytes))} (h:QS S a toks w) (hk:Hid (nk (S.l.drop a)=27)) (HM:Hid (qExpr q (S.l.drop a,toks)=some r)) :
  Calls Tryz.prog 187 #[.pointer (some ⟨S.bp,0,none⟩)] w (VOut S w unitV r):=by
 unfold qExpr at HM
 have p0:=Pf.refl S.bp w
 have HM0:=q_kind HM
 clear HM
 simp only[hk.out]at HM0
 have kt:Hid True:=trivial
 have HM1:=q_ite_neg (by decide) HM0
 clear HM0
 have HM2:=q_ite_neg (by decide) HM1
 clear HM1
 have HM3:=q_ite_neg (by decide) HM2
 clear HM2
 have HM4:=q_ite_neg (by decide) HM3
 clear HM3
 have HM5:=q_ite_neg (by decide) HM4
 clear HM4
 have HM6:=q_ite_neg (by decide) HM5
 clear HM5
 have HM7:=q_ite_neg (by decide) HM6
 clear HM6
 have HM8:=q_ite_neg (by decide) HM7
 clear HM7
 have HM9:=q_ite_pos (by decide) HM8
 clear HM8
 go_enter Tryz.func187,Tryz.ntmps187
 go_upto_region 48 with(first
   | (go_at_call 74;refine(q_kindk h hk kt).mono ?_;rintro e w10 ⟨rfl,h10,pf10⟩;have p10:=p0.trans pf10;clear kt)
   | (go_at_call 75;refine(q_next h10 HM9).mono ?_;rintro e w11 (⟨rfl,hr,pf11⟩|⟨n,a11,rfl,hin11,hk11,h11,pf11,HM11⟩);exact⟨rfl,VOut.pan hr (p10.trans pf11)⟩;have p11:=p10.trans pf11;have ok11:=h11.ok _ hin11;clear HM9;have bxn:=Blk.new w11 #[.int .i64 n.kind,.int .i64 n.at',.int .i64 n.kids,.string ⟨n.text.toArray⟩,.int .i64 n.int,.int .u64 n.bits] 40;obtain⟨ncn,nzn,nsetn,nbn⟩:=bxn.rules;have hnen:w11.heap.size≠S.bp:=(by have:=h11.lt;omega);have h12:=h11.alloc (.cells #[.int .i64 n.kind,.int .i64 n.at',.int .i64 n.kids,.string ⟨n.text.toArray⟩,.int .i64 n.int,.int .u64 n.bits] 40);have p12:=p11.trans (QS.fr0 h11 ((Fr.refl _ _).alloc (.cells #[.int .i64 n.kind,.int .i64 n.at',.int .i64 n.kids,.string ⟨n.text.toArray⟩,.int .i64 n.int,.int .u64 n.bits] 40)))))
 cases c1:(n.kids==0)
 ·have hrn:=Lib.hid ((q_fit HM11).2 (by simp[c1]))
  go_wp2_with (first
    | (go_at_call 48;with_reducible refine(fit_no _).mono ?_;rintro e w13 ⟨rfl,rfl⟩))
  exact⟨rfl,VOut.pan hrn.out p12⟩
 by_cases c2:n.bits≤9218868437227405312
 ·skip
  have HM13:=(q_fit HM11).1 (by simp[c1,c2,bInf])
  clear HM11
  go_wp2_with (first
    | (go_at_call 48;with_reducible refine(fit_yes _).mono ?_;rintro e w14 ⟨rfl,rfl⟩)
    | (go_at_call 221;refine(numFloat_any n.bits _ h12.vars ok11.bitsL ok11.bitsH).mono ?_;rintro e w15 ⟨rfl,hf15⟩;have h15:=h12.fr hf15;have pf15:=QS.fr0 h12 hf15;have p15:=p12.trans pf15;have bxn:=QS.blkOn h12 pf15 bxn (by decide) hnen;obtain⟨ncn,nzn,nsetn,nbn⟩:=bxn.rules)
    | (go_at_call 76;refine(q_putc (l:=[floatT n.bits.toNat]) h15 (q_last HM13) rfl (by simp) (by first|rfl|simp)).mono ?_;rintro e w16 ⟨rfl,h16,pf16,HM16⟩;have p16:=p15.trans pf16;have bxn:=QS.blkOn h15 pf16 bxn (by decide) hnen;obtain⟨ncn,nzn,nsetn,nbn⟩:=bxn.rules;clear HM13))
  go_end0
  exact VOut.ret (y:=()) HM16 h16 p16
 have c2':9218868437227405312<n.bits:=by omega
 cases c3:(n.bits==9221120237041090560)
 ·have hrn:=Lib.hid ((q_fit HM11).2 (by simp[c1,c2,bInf,bNaN];simpa using c3))
  go_wp2_with (first
    | (go_at_call 48;with_reducible refine(fit_no _).mono ?_;rintro e w13 ⟨rfl,rfl⟩))
  exact⟨rfl,VOut.pan hrn.out p12⟩
 ·skip
  have HM13:=(q_fit HM11).1 (by simp[c1,c2,bInf,bNaN];simpa using c3)
  clear HM11
  go_wp2_with (first
    | (go_at_call 48;with_reducible refine(fit_yes _).mono ?_;rintro e w14 ⟨rfl,rfl⟩)
    | (go_at_call 221;refine(numFloat_any n.bits _ h12.vars ok11.bitsL ok11.bitsH).mono ?_;rintro e w15 ⟨rfl,hf15⟩;have h15:=h12.fr hf15;have pf15:=QS.fr0 h12 hf15;have p15:=p12.trans pf15;have bxn:=QS.blkOn h12 pf15 bxn (by decide) hnen;obtain⟨ncn,nzn,nsetn,nbn⟩:=bxn.rules)
    | (go_at_call 76;refine(q_putc (l:=[floatT n.bits.toNat]) h15 (q_last HM13) rfl (by simp) (by first|rfl|simp)).mono ?_;rintro e w16 ⟨rfl,h16,pf16,HM16⟩;have p16:=p15.trans pf16;have bxn:=QS.blkOn h15 pf16 bxn (by decide) hnen;obtain⟨ncn,nzn,nsetn,nbn⟩:=bxn.rules;clear HM13))
  go_end0
  exact VOut.ret (y:=()) HM16 h16 p16
theorem qex28 {q:PRec} (ihe:QAny 187 S q.expr) {a:Nat} {toks:List Bytes} {w:World} {r:Option (Unit × (List Ck.Node × List Bytes))} (h:QS S a toks w) (hk:Hid (nk (S.l.drop a)=28)) (HM:Hid (qExpr q (S.l.drop a,toks)=some r)) :
  Calls Tryz.prog 187 #[.pointer (some ⟨S.bp,0,none⟩)] w (VOut S w unitV r):=by
 unfold qExpr at HM
 have p0:=Pf.refl S.bp w
 have HM0:=q_kind HM
 clear HM
 simp only[hk.out]at HM0
 have kt:Hid True:=trivial
 have HM1:=q_ite_neg (by decide) HM0
 clear HM0
 have HM2:=q_ite_neg (by decide) HM1
 clear HM1
 have HM3:=q_ite_neg (by decide) HM2
 clear HM2
 have HM4:=q_ite_neg (by decide) HM3
 clear HM3
 have HM5:=q_ite_neg (by decide) HM4
 clear HM4
 have HM6:=q_ite_neg (by decide) HM5
 clear HM5
 have HM7:=q_ite_neg (by decide) HM6
 clear HM6
 have HM8:=q_ite_neg (by decide) HM7
 clear HM7
 have HM9:=q_ite_neg (by decide) HM8
 clear HM8
 have HM10:=q_ite_pos (by decide) HM9
 clear HM9
 go_enter Tryz.func187,Tryz.ntmps187
 go_wp2_with (first
   | (go_at_call 74;refine(q_kindk h hk kt).mono ?_;rintro e w11 ⟨rfl,h11,pf11⟩;have p11:=p0.trans pf11;clear kt)
   | (go_at_call 75;refine(q_next h11 HM10).mono ?_;rintro e w12 (⟨rfl,hr,pf12⟩|⟨n,a12,rfl,hin12,hk12,h12,pf12,HM12⟩);exact⟨rfl,VOut.pan hr (p11.trans pf12)⟩;have p12:=p11.trans pf12;have ok12:=h12.ok _ hin12;clear HM10;have bxn:=Blk.new w12 #[.int .i64 n.kind,.int .i64 n.at',.int .i64 n.kids,.string ⟨n.text.toArray⟩,.int .i64 n.int,.int .u64 n.bits] 40;obtain⟨ncn,nzn,nsetn,nbn⟩:=bxn.rules;have hnen:w12.heap.size≠S.bp:=(by have:=h12.lt;omega);have h13:=h12.alloc (.cells #[.int .i64 n.kind,.int .i64 n.at',.int .i64 n.kids,.string ⟨n.text.toArray⟩,.int .i64 n.int,.int .u64 n.bits] 40);have p13:=p12.trans (QS.fr0 h12 ((Fr.refl _ _).alloc (.cells #[.int .i64 n.kind,.int .i64 n.at',.int .i64 n.kids,.string ⟨n.text.toArray⟩,.int .i64 n.int,.int .u64 n.bits] 40))))
   | (go_at_call 48;refine(fit_any (n.kids==0) _).mono ?_;rintro e w14 (⟨hb14,rfl,rfl⟩|⟨hb14,rfl,rfl⟩);have HM14:=(q_fit HM12).1 hb14;rotate_left;exact⟨rfl,VOut.pan ((q_fit HM12).2 hb14) p13⟩;clear HM12)
   | (go_at_call 222;refine(quote_any n.text _ (Nat.le_trans (quote_ge _) (q_put_len (q_last HM14)))).mono ?_;rintro e w15 ⟨rfl,hf15⟩;have h15:=h13.fr hf15;have pf15:=QS.fr0 h13 hf15;have p15:=p13.trans pf15;have bxn:=QS.blkOn h13 pf15 bxn (by decide) hnen;obtain⟨ncn,nzn,nsetn,nbn⟩:=bxn.rules)
   | (go_at_call 76;refine(q_putc (l:=[quote n.text]) h15 (q_last HM14) rfl (by simp) (by first|rfl|simp)).mono ?_;rintro e w16 ⟨rfl,h16,pf16,HM16⟩;have p16:=p15.trans pf16;have bxn:=QS.blkOn h15 pf16 bxn (by decide) hnen;obtain⟨ncn,nzn,nsetn,nbn⟩:=bxn.rules;clear HM14))
 go_end0
 exact VOut.ret (y:=()) HM16 h16 p16
theorem qex29 {q:PRec} (ihe:QAny 187 S q.expr) {a:Nat} {toks:List Bytes} {w:World} {r:Option (Unit × (List Ck.Node × List Bytes))} (h:QS S a toks w) (hk:Hid (nk (S.l.drop a)=29)) (HM:Hid (qExpr q (S.l.drop a,toks)=some r)) :
  Calls Tryz.prog 187 #[.pointer (some ⟨S.bp,0,none⟩)] w (VOut S w unitV r):=by
 unfold qExpr at HM
 have p0:=Pf.refl S.bp w
 have HM0:=q_kind HM
 clear HM
 simp only[hk.out]at HM0
 have kt:Hid True:=trivial
 have HM1:=q_ite_neg (by decide) HM0
 clear HM0
 have HM2:=q_ite_neg (by decide) HM1
 clear HM1
 have HM3:=q_ite_neg (by decide) HM2
 clear HM2
 have HM4:=q_ite_neg (by decide) HM3
 clear HM3
 have HM5:=q_ite_neg (by decide) HM4
 clear HM4
 have HM6:=q_ite_neg (by decide) HM5
 clear HM5
 have HM7:=q_ite_neg (by decide) HM6
 clear HM6
 have HM8:=q_ite_neg (by decide) HM7
 clear HM7
 have HM9:=q_ite_neg (by decide) HM8
 clear HM8
 have HM10:=q_ite_neg (by decide) HM9
 clear HM9
 have HM11:=q_ite_pos (by decide) HM10
 clear HM10
 go_enter Tryz.func187,Tryz.ntmps187
 go_wp2_with (first
   | (go_at_call 74;refine(q_kindk h hk kt).mono ?_;rintro e w12 ⟨rfl,h12,pf12⟩;have p12:=p0.trans pf12;clear kt)
   | (go_at_call 188;refine(q_call (qbare_any 29 0) h12 HM11).mono ?_;rintro e w13 (⟨rfl,hr,pf13⟩|⟨u13,a13,toks13,rfl,h13,pf13,HM13⟩);exact⟨rfl,VOut.pan hr (p12.trans pf13)⟩;simp only[unitV];have p13:=p12.trans pf13;clear HM11)
   | (go_at_call 76;refine(q_putc (l:=[[116,114,117,101]]) h13 (q_last HM13) rfl (by simp) (by first|rfl|simp)).mono ?_;rintro e w14 ⟨rfl,h14,pf14,HM14⟩;have p14:=p13.trans pf14;clear HM13))
 go_end0
 exact VOut.ret (y:=()) HM14 h14 p14
theorem qex30 {q:PRec} (ihe:QAny 187 S q.expr) {a:Nat} {toks:List Bytes} {w:World} {r:Option (Unit × (List Ck.Node × List Bytes))} (h:QS S a toks w) (hk:Hid (nk (S.l.drop a)=30)) (HM:Hid (qExpr q (S.l.drop a,toks)=some r)) :
  Calls Tryz.prog 187 #[.pointer (some ⟨S.bp,0,none⟩)] w (VOut S w unitV r):=by
 unfold qExpr at HM
 have p0:=Pf.refl S.bp w
 have HM0:=q_kind HM
 clear HM
 simp only[hk.out]at HM0
 have kt:Hid True:=trivial
 have HM1:=q_ite_neg (by decide) HM0
 clear HM0
 have HM2:=q_ite_neg (by decide) HM1
 clear HM1
 have HM3:=q_ite_neg (by decide) HM2
 clear HM2
 have HM4:=q_ite_neg (by decide) HM3
 clear HM3
 have HM5:=q_ite_neg (by decide) HM4
 clear HM4
 have HM6:=q_ite_neg (by decide) HM5
 clear HM5
 have HM7:=q_ite_neg (by decide) HM6
 clear HM6
 have HM8:=q_ite_neg (by decide) HM7
 clear HM7
 have HM9:=q_ite_neg (by decide) HM8
 clear HM8
 have HM10:=q_ite_neg (by decide) HM9
 clear HM9
 have HM11:=q_ite_neg (by decide) HM10
 clear HM10
 have HM12:=q_ite_pos (by decide) HM11
 clear HM11
 go_enter Tryz.func187,Tryz.ntmps187
 go_wp2_with (first
   | (go_at_call 74;refine(q_kindk h hk kt).mono ?_;rintro e w13 ⟨rfl,h13,pf13⟩;have p13:=p0.trans pf13;clear kt)
   | (go_at_call 188;refine(q_call (qbare_any 30 0) h13 HM12).mono ?_;rintro e w14 (⟨rfl,hr,pf14⟩|⟨u14,a14,toks14,rfl,h14,pf14,HM14⟩);exact⟨rfl,VOut.pan hr (p13.trans pf14)⟩;simp only[unitV];have p14:=p13.trans pf14;clear HM12)
   | (go_at_call 76;refine(q_putc (l:=[[102,97,108,115,101]]) h14 (q_last HM14) rfl (by simp) (by first|rfl|simp)).mono ?_;rintro e w15 ⟨rfl,h15,pf15,HM15⟩;have p15:=p14.trans pf15;clear HM14))
 go_end0
 exact VOut.ret (y:=()) HM15 h15 p15
theorem qex31 {q:PRec} (ihe:QAny 187 S q.expr) {a:Nat} {toks:List Bytes} {w:World} {r:Option (Unit × (List Ck.Node × List Bytes))} (h:QS S a toks w) {kk:Int} (hk:Hid (nk (S.l.drop a)=kk)) (e18:(kk==18)=false) (e19:(kk==19)=false) (e20:(kk==20)=false) (e21:(kk==21)=false) (e22:(kk==22)=false) (e23:(kk==23)=false) (e24:(kk==24)=false) (e25:(kk==25)=false) (e26:(kk==26)=false) (e27:(kk==27)=false) (e28:(kk==28)=false) (e29:(kk==29)=false) (e30:(kk==30)=false) (HM:Hid (qExpr q (S.l.drop a,toks)=some r)) :
  Calls Tryz.prog 187 #[.pointer (some ⟨S.bp,0,none⟩)] w (VOut S w unitV r):=by
 unfold qExpr at HM
 have p0:=Pf.refl S.bp w
 have HM0:=q_kind HM
 clear HM
 simp only[hk.out]at HM0
 have kt:Hid True:=trivial
 have HM1:=q_ite_neg (by simp[e18,e19]) HM0
 clear HM0
 have HM2:=q_ite_neg (by simp[e20]) HM1
 clear HM1
 have HM3:=q_ite_neg (by simp[e21]) HM2
 clear HM2
 have HM4:=q_ite_neg (by simp[e22]) HM3
 clear HM3
 have HM5:=q_ite_neg (by simp[e23]) HM4
 clear HM4
 have HM6:=q_ite_neg (by simp[e24]) HM5
 clear HM5
 have HM7:=q_ite_neg (by simp[e25]) HM6
 clear HM6
 have HM8:=q_ite_neg (by simp[e26]) HM7
 clear HM7
 have HM9:=q_ite_neg (by simp[e27]) HM8
 clear HM8
 have HM10:=q_ite_neg (by simp[e28]) HM9
 clear HM9
 have HM11:=q_ite_neg (by simp[e29]) HM10
 clear HM10
 have HM12:=q_ite_neg (by simp[e30]) HM11
 clear HM11
 go_enter Tryz.func187,Tryz.ntmps187
 go_wp2_with (first
   | (go_at_call 74;refine(q_kindk h hk kt).mono ?_;rintro e w13 ⟨rfl,h13,pf13⟩;have p13:=p0.trans pf13;clear kt)
   | (go_at_call 188;refine(q_call (qbare_any 31 0) h13 HM12).mono ?_;rintro e w14 (⟨rfl,hr,pf14⟩|⟨u14,a14,toks14,rfl,h14,pf14,HM14⟩);exact⟨rfl,VOut.pan hr (p13.trans pf14)⟩;simp only[unitV];have p14:=p13.trans pf14;clear HM12)
   | (go_at_call 76;refine(q_putc (l:=[[110,105,108]]) h14 (q_last HM14) rfl (by simp) (by first|rfl|simp)).mono ?_;rintro e w15 ⟨rfl,h15,pf15,HM15⟩;have p15:=p14.trans pf15;clear HM14))
 go_end0
 exact VOut.ret (y:=()) HM15 h15 p15
theorem qexpr_any {q:PRec} (ihe:QAny 187 S q.expr):QAny 187 S (qExpr q):=by
 intro a toks w r h HM
 obtain⟨kk,hk⟩:∃kk,Hid (nk (S.l.drop a)=kk):=⟨_,rfl⟩
 cases e18:(kk==18)
 rotate_left
 ·obtain rfl:kk=18:=by simpa using e18
  exact qex18 ihe h hk HM
 cases e19:(kk==19)
 rotate_left
 ·obtain rfl:kk=19:=by simpa using e19
  exact qex19 ihe h hk HM
 cases e20:(kk==20)
 rotate_left
 ·obtain rfl:kk=20:=by simpa using e20
  exact qex20 ihe h hk HM
 cases e21:(kk==21)
 rotate_left
 ·obtain rfl:kk=21:=by simpa using e21
  exact qex21 ihe h hk HM
 cases e22:(kk==22)
 rotate_left
 ·obtain rfl:kk=22:=by simpa using e22
  exact qex22 ihe h hk HM
 cases e23:(kk==23)
 rotate_left
 ·obtain rfl:kk=23:=by simpa using e23
  exact qex23 ihe h hk HM
 cases e24:(kk==24)
 rotate_left
 ·obtain rfl:kk=24:=by simpa using e24
  exact qex24 ihe h hk HM
 cases e25:(kk==25)
 rotate_left
 ·obtain rfl:kk=25:=by simpa using e25
  exact qex25 ihe h hk HM
 cases e26:(kk==26)
 rotate_left
 ·obtain rfl:kk=26:=by simpa using e26
  exact qex26 ihe h hk HM
 cases e27:(kk==27)
 rotate_left
 ·obtain rfl:kk=27:=by simpa using e27
  exact qex27 ihe h hk HM
 cases e28:(kk==28)
 rotate_left
 ·obtain rfl:kk=28:=by simpa using e28
  exact qex28 ihe h hk HM
 cases e29:(kk==29)
 rotate_left
 ·obtain rfl:kk=29:=by simpa using e29
  exact qex29 ihe h hk HM
 cases e30:(kk==30)
 rotate_left
 ·obtain rfl:kk=30:=by simpa using e30
  exact qex30 ihe h hk HM
 exact qex31 ihe h hk e18 e19 e20 e21 e22 e23 e24 e25 e26 e27 e28 e29 e30 HM
end
section
variable {S:QSt}
def paramsHead:Nat→Pr Unit
 | 0=>pure ()
 | m+1=>do
  let s ←namedP 4 0
  put [s]
  qParams m
theorem q_assoc3 {α γ δ ε β:Type} {x:Pr α} {f:α→Pr γ} {k:α→γ→Pr δ} {l:α→γ→δ→Pr ε} {g:ε→Pr β} {st:List Ck.Node × List Bytes} {r:Option (β × (List Ck.Node × List Bytes))} (h:Hid (((x >>= fun y=>f y >>= fun z=>k y z >>= fun u=>l y z u) >>= g) st=some r)):Hid ((x >>= fun y=>f y >>= fun z=>k y z >>= fun u=>l y z u >>= g) st=some r):=by
 have h1:=(q_assoc2 h).out
 show _=_
 rw[←h1]
 simp only[Pr.bind_eq,Pr.bind]
 cases x st with
 | none=>rfl
 | some o =>
  cases o with
  | none=>rfl
  | some p =>
   obtain⟨y,s1⟩:=p
   simp only
   cases f y s1 with
   | none=>rfl
   | some o =>
    cases o with
    | none=>rfl
    | some p =>
     obtain⟨z,s2⟩:=p
     simp only
     cases k y z s2 with
     | none=>rfl
     | some o=>cases o<;>rfl
theorem qfunction_any {q:PRec} (ihb:QAny 105 S q.block):QAny 78 S (qFunction q):=by
 intro a toks w r h HM
 unfold qFunction at HM
 have p0:=Pf.refl S.bp w
 go_enter Tryz.func78,Tryz.ntmps78
 go_upto_region 2 with(first
   | (go_at_call 74;refine(q_kindc h HM).mono ?_;rintro e w1 ⟨rfl,h1,pf1,HM1⟩;have p1:=p0.trans pf1;clear HM)
   | (go_at_call 48;refine(fit_any (nk (S.l.drop a)==3) _).mono ?_;rintro e w2 (⟨hb2,rfl,rfl⟩|⟨hb2,rfl,rfl⟩);have HM2:=(q_fit HM1).1 hb2;rotate_left;exact⟨rfl,VOut.pan ((q_fit HM1).2 hb2) p1⟩;clear HM1)
   | (go_at_call 75;refine(q_next h1 HM2).mono ?_;rintro e w3 (⟨rfl,hr,pf3⟩|⟨n,a3,rfl,hin3,hk3,h3,pf3,HM3⟩);exact⟨rfl,VOut.pan hr (p1.trans pf3)⟩;have p3:=p1.trans pf3;have ok3:=h3.ok _ hin3;clear HM2;have bxn:=Blk.new w3 #[.int .i64 n.kind,.int .i64 n.at',.int .i64 n.kids,.string ⟨n.text.toArray⟩,.int .i64 n.int,.int .u64 n.bits] 40;obtain⟨ncn,nzn,nsetn,nbn⟩:=bxn.rules;have hnen:w3.heap.size≠S.bp:=(by have:=h3.lt;omega);have h4:=h3.alloc (.cells #[.int .i64 n.kind,.int .i64 n.at',.int .i64 n.kids,.string ⟨n.text.toArray⟩,.int .i64 n.int,.int .u64 n.bits] 40);have p4:=p3.trans (QS.fr0 h3 ((Fr.refl _ _).alloc (.cells #[.int .i64 n.kind,.int .i64 n.at',.int .i64 n.kids,.string ⟨n.text.toArray⟩,.int .i64 n.int,.int .u64 n.bits] 40)))))
 by_cases hpos:0<n.kids
 rotate_left
 ·have hrn:=Lib.hid ((q_fit HM3).2 (by simp[hpos]))
  have hpos':n.kids≤0:=by omega
  go_wp2_with (first
    | (go_at_call 48;with_reducible refine(fit_no _).mono ?_;rintro e w5 ⟨rfl,rfl⟩))
  exact⟨rfl,VOut.pan hrn.out p4⟩
 have HM5:=(q_fit HM3).1 (by simp[hpos])
 clear HM3
 have hmax:=ok3.kids
 go_upto_region 4 with(first
   | (go_at_call 48;with_reducible refine(fit_yes _).mono ?_;rintro e w6 ⟨rfl,rfl⟩)
   | (go_at_call 104;refine(q_namec h4 ok3.text HM5).mono ?_;rintro e w7 (⟨rfl,hr,pf7⟩|⟨rfl,h7,pf7,HM7⟩);exact⟨rfl,VOut.pan hr (p4.trans pf7)⟩;have p7:=p4.trans pf7;have bxn:=QS.blkOn h4 pf7 bxn (by decide) hnen;obtain⟨ncn,nzn,nsetn,nbn⟩:=bxn.rules;clear HM5)
   | (go_at_call 76;refine(q_putc (l:=[[102,110],n.text,[40]]) h7 HM7 rfl (by simp) (by first|rfl|simp)).mono ?_;rintro e w8 ⟨rfl,h8,pf8,HM8⟩;have p8:=p7.trans pf8;have bxn:=QS.blkOn h7 pf8 bxn (by decide) hnen;obtain⟨ncn,nzn,nsetn,nbn⟩:=bxn.rules;clear HM7))
 obtain⟨N,hN⟩:∃N:Nat,n.kids-1=(N:Int):=⟨(n.kids-1).toNat,(Int.toNat_of_nonneg (by omega)).symm⟩
 have HMN:Hid ((paramsHead N >>= fun _=>put [[41]] >>= fun _=>q.block) (S.l.drop a3,(toks++[[102,110],n.text,[40]]))=some r):=by have:=HM8;rw[hN]at this;exact this
 have hNmax:(N:Int)≤9223372036854775807:=by omega
 have hH:=h8;have hP:=p8
 have HN:=Lib.hid hN
 clear hN
 go_wp2
 rw[HN.out]
 clear HM8 hk3 ok3 HN hmax hpos
 go_loopg [3,23] N (fun k _v c wr=>∃j:Nat,c=.int .i64 j∧Hid (j+k=N∧∃a toks,QS S a toks wr∧Pf S.bp w wr∧Hid (((if j=0 then paramsHead k else qParams k) >>= fun _=>put [[41]] >>= fun _=>q.block) (S.l.drop a,toks)=some r)))
 case atStart=>exact⟨0,rfl,by omega,_,_,hH,hP,HMN⟩
 case round =>
  clear hH hP HMN bxn ncn nzn nsetn nbn hnen
  obtain⟨j,rfl,hq⟩:=hrel
  obtain⟨hj,a,toks,h,p0,HM⟩:=hq.out
  clear hq
  cases gk with
  | zero =>
   have hlt:¬(j:Int)<N:=by omega
   have HM1:Hid ((put [[41]] >>= fun _=>q.block) (S.l.drop a,toks)=some r):=by have:=HM;split at this<;>exact this
   clear HM
   go_wp2_with (first
     | (go_at_call 76;refine(q_putc (l:=[[41]]) h HM1 rfl (by simp) (by first|rfl|simp)).mono ?_;rintro e w2 ⟨rfl,h2,pf2,HM2⟩;have p2:=p0.trans pf2;clear HM1)
     | (go_at_call 105;refine(q_call ihb h2 (q_last HM2)).mono ?_;rintro e w3 (⟨rfl,hr,pf3⟩|⟨u3,a3,toks3,rfl,h3,pf3,HM3⟩);exact⟨rfl,VOut.pan hr (p2.trans pf3)⟩;simp only[unitV];have p3:=p2.trans pf3;clear HM2))
   go_end0
   exact VOut.ret (y:=()) HM3 h3 p3
  | succ k =>
   have hlt:(j:Int)<N:=by omega
   by_cases j0:j=0
   ·subst j0
    have HM1:Hid ((namedP 4 0 >>= fun s=>put [s] >>= fun _=>qParams k >>= fun _=>put [[41]] >>= fun _=>q.block) (S.l.drop a,toks)=some r):=q_assoc2 HM
    clear HM
    go_wp2_with (first
      | (go_at_call 77;refine(q_call (qnamed_any 4 0) h HM1).mono ?_;rintro e w2 (⟨rfl,hr,pf2⟩|⟨x,a2,toks2,rfl,h2,pf2,HM2⟩);exact⟨rfl,VOut.pan hr (p0.trans pf2)⟩;simp only[strV];have p2:=p0.trans pf2;clear HM1)
      | (go_at_call 76;refine(q_putc (l:=[x]) h2 HM2 rfl (by simp) (by first|rfl|simp)).mono ?_;rintro e w3 ⟨rfl,h3,pf3,HM3⟩;have p3:=p2.trans pf3;clear HM2))
    go_roundg k
    case measure=>omega
    case rel=>exact⟨1,by go_num,by omega,_,_,h3,p3,HM3⟩
   ·have hj0:(0:Int)<j:=by omega
    have HM1:Hid ((put [[44]] >>= fun _=>namedP 4 0 >>= fun s=>put [s] >>= fun _=>qParams k >>= fun _=>put [[41]] >>= fun _=>q.block) (S.l.drop a,toks)=some r):=by rw[if_neg j0]at HM;exact q_assoc3 HM
    clear HM
    go_wp2_with (first
      | (go_at_call 76;refine(q_putc (l:=[[44]]) h HM1 rfl (by simp) (by first|rfl|simp)).mono ?_;rintro e w2 ⟨rfl,h2,pf2,HM2⟩;have p2:=p0.trans pf2;clear HM1)
      | (go_at_call 77;refine(q_call (qnamed_any 4 0) h2 HM2).mono ?_;rintro e w3 (⟨rfl,hr,pf3⟩|⟨x,a3,toks3,rfl,h3,pf3,HM3⟩);exact⟨rfl,VOut.pan hr (p2.trans pf3)⟩;simp only[strV];have p3:=p2.trans pf3;clear HM2)
      | (go_at_call 76;refine(q_putc (l:=[x]) h3 HM3 rfl (by simp) (by first|rfl|simp)).mono ?_;rintro e w4 ⟨rfl,h4,pf4,HM4⟩;have p4:=p3.trans pf4;clear HM3))
    go_roundg k
    case measure=>omega
    case rel=>exact⟨j+1,by go_num,by omega,_,_,h4,p4,by rw[if_neg (by omega)];exact HM4⟩
theorem qprogram_any {q:PRec} (ihf:QAny 78 S (qFunction q)):QAny 47 S (qProgram q):=by
 intro a toks w r h HM
 unfold qProgram at HM
 have p0:=Pf.refl S.bp w
 go_enter Tryz.func47,Tryz.ntmps47
 go_wp2_with (first
   | (go_at_call 74;refine(q_kindc h HM).mono ?_;rintro e w1 ⟨rfl,h1,pf1,HM1⟩;have p1:=p0.trans pf1;clear HM)
   | (go_at_call 48;refine(fit_any (nk (S.l.drop a)==1) _).mono ?_;rintro e w2 (⟨hb2,rfl,rfl⟩|⟨hb2,rfl,rfl⟩);have HM2:=(q_fit HM1).1 hb2;rotate_left;exact⟨rfl,VOut.pan ((q_fit HM1).2 hb2) p1⟩;clear HM1)
   | (go_at_call 75;refine(q_next h1 HM2).mono ?_;rintro e w3 (⟨rfl,hr,pf3⟩|⟨n,a3,rfl,hin3,hk3,h3,pf3,HM3⟩);exact⟨rfl,VOut.pan hr (p1.trans pf3)⟩;have p3:=p1.trans pf3;have ok3:=h3.ok _ hin3;clear HM2))
 have hmax:=ok3.kids
 obtain⟨N,hN⟩:∃N:Nat,n.kids=(N:Int):=⟨n.kids.toNat,(Int.toNat_of_nonneg hk3).symm⟩
 rw[hN]at HM3 hmax ⊢
 simp only[Int.toNat_natCast]at HM3
 clear hN hk3 ok3 hin3
 have hH:=h3;have hP:=p3;have hM:=HM3
 clear h p0 h1 h3 p1 p3 pf1 pf3 HM3 hb2
 go_loopg [9] N (fun k c wr=>∃j:Nat,c=.int .i64 j∧Hid (j+k=N∧∃a toks,QS S a toks wr∧Pf S.bp w wr∧Hid (repP (qTop q) k (S.l.drop a,toks)=some r)))
 case atStart=>exact⟨0,rfl,by omega,_,_,hH,hP,hM⟩
 case round =>
  clear hH hP hM
  obtain⟨j,rfl,hq⟩:=hrel
  obtain⟨hj,a,toks,h,p0,HM⟩:=hq.out
  clear hq
  cases gk with
  | zero =>
   have hlt:¬(j:Int)<N:=by omega
   go_wp2
   go_end0
   exact VOut.ret (y:=()) HM h p0
  | succ k =>
   have hlt:(j:Int)<N:=by omega
   have HM1:Hid ((qTop q >>= fun _=>repP (qTop q) k) (S.l.drop a,toks)=some r):=HM
   clear HM
   obtain⟨kk,hk,HK⟩:∃kk,Hid (nk (S.l.drop a)=kk)∧nk (S.l.drop a)=kk:=⟨_,rfl,rfl⟩
   unfold qTop at HM1
   have HM2:=q_kind (q_assoc HM1)
   simp only[HK]at HM2
   clear HK HM1
   have kt:Hid True:=trivial
   cases e2:(kk==2)
   ·have HM3:Hid ((qFunction q >>= fun _=>repP (qTop q) k) (S.l.drop a,toks)=some r):=by have:=HM2;rw[if_neg (by simp[e2])]at this;exact this
    clear HM2
    go_wp2_with (first
      | (go_at_call 74;refine(q_kindk h hk kt).mono ?_;rintro e w4 ⟨rfl,h4,pf4⟩;have p4:=p0.trans pf4;clear kt)
      | (go_at_call 78;refine(q_call ihf h4 HM3).mono ?_;rintro e w5 (⟨rfl,hr,pf5⟩|⟨u5,a5,toks5,rfl,h5,pf5,HM5⟩);exact⟨rfl,VOut.pan hr (p4.trans pf5)⟩;simp only[unitV];have p5:=p4.trans pf5;clear HM3))
    go_roundg k
    case measure=>omega
    case rel=>exact⟨j+1,by go_num,by omega,_,_,h5,p5,HM5⟩
   ·have HM3:Hid ((namedP 2 0 >>= fun s=>put [[108,101,116],s,[59]] >>= fun _=>repP (qTop q) k) (S.l.drop a,toks)=some r):=by have:=HM2;rw[if_pos e2]at this;exact q_assoc this
    clear HM2
    go_wp2_with (first
      | (go_at_call 74;refine(q_kindk h hk kt).mono ?_;rintro e w4 ⟨rfl,h4,pf4⟩;have p4:=p0.trans pf4;clear kt)
      | (go_at_call 77;refine(q_call (qnamed_any 2 0) h4 HM3).mono ?_;rintro e w5 (⟨rfl,hr,pf5⟩|⟨x,a5,toks5,rfl,h5,pf5,HM5⟩);exact⟨rfl,VOut.pan hr (p4.trans pf5)⟩;simp only[strV];have p5:=p4.trans pf5;clear HM3)
      | (go_at_call 76;refine(q_putc (l:=[[108,101,116],x,[59]]) h5 HM5 rfl (by simp) (by first|rfl|simp)).mono ?_;rintro e w6 ⟨rfl,h6,pf6,HM6⟩;have p6:=p5.trans pf6;clear HM5))
    go_roundg k
    case measure=>omega
    case rel=>exact⟨j+1,by go_num,by omega,_,_,h6,p6,HM6⟩
structure PIH (S:QSt) (q:PRec):Prop where
 block:QAny 105 S q.block
 statement:QAny 157 S q.statement
 choice:QAny 190 S q.choice
 loop:QAny 191 S q.loop
 expr:QAny 187 S q.expr
theorem qout_any {fn:Nat}:QAny fn S (Pr.out:Pr Unit):=fun a toks w r _ HM=>by cases HM.out
theorem precs_any (S:QSt):∀n,PIH S (precs n)
 | 0=>⟨qout_any,qout_any,qout_any,qout_any,qout_any⟩
 | n+1=>by
  have h:=precs_any S n
  exact⟨qblock_any h.statement,qstatement_any h.expr h.choice h.loop,qchoice_any h.expr h.block h.choice,qloop_any h.expr h.block,qexpr_any h.expr⟩
theorem qprint_any (S:QSt) (n:Nat):QAny 47 S (qProgram (precs n)):=qprogram_any (qfunction_any (precs_any S n).block)
end
end Go.Proofs.YtoomapkcoibmhaaGreatDoor
end
