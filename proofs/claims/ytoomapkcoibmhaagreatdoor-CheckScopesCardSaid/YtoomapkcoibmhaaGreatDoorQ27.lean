/- A part of the proof. -/
import Derived.Test.YtoomapkcoibmhaaGreatDoorQ26
set_option maxRecDepth 100000
set_option maxHeartbeats 12800000
set_option linter.all false
section
open Go Go.Proofs Go.RowKit Go.Shelf Go.Maps Ck
namespace Go.Proofs.YtoomapkcoibmhaaGreatDoor
attribute [local go_sem] Oper.semAt_some
theorem kid_at {R rest:List Ck.Node} {p:Nat} {ks:List Tree} (h:R.drop p=rows ks++rest) {j:Nat} {t:Tree} (ht:ks[j]? = some t):∃q rest',(kpos p ks)[j]? = some q∧R.drop q=t.row++rest':=by
 induction ks generalizing p j with
 | nil=>cases ht
 | cons a ks ih =>
  cases j with
  | zero =>
   obtain rfl:a=t:=by simpa using ht
   exact⟨p,rows ks++rest,rfl,by rw[h];simp[rows]⟩
  | succ j =>
   have h2:R.drop (p+a.row.length)=rows ks++rest:=by
    rw[←List.drop_drop,h];simp[rows,List.drop_left',List.append_assoc]
   obtain⟨q,r,e1,e2⟩:=ih h2 (by simpa using ht)
   exact⟨q,r,by simpa[kpos]using e1,e2⟩
theorem row_tail {R rest:List Ck.Node} {i:Nat} {n:Ck.Node} {ks:List Tree} (h:R.drop i=(Tree.mk n ks).row++rest):R.drop (i+1)=rows ks++rest∧R[i]? = some { n with kids:=(ks.length:Int) }:=by
 constructor
 ·have:=congrArg List.tail h
  simpa[Tree.row,List.tail_drop]using this
 ·have:=congrArg (fun l=>l[0]?) h
  simpa[Tree.row]using this
theorem sizes_at {ks:List Tree} {q:Nat} {t:Tree} (h:ks[q]? = some t):q+t.size≤sizes ks:=by
 induction ks generalizing q with
 | nil=>cases h
 | cons a ks ih =>
  cases q with
  | zero =>
   obtain rfl:a=t:=by simpa using h
   simp[sizes]
  | succ q =>
   have:=ih (q:=q) (by simpa using h)
   have:=size_pos a
   simp[sizes];omega
theorem owns_form {W:World} {base:Nat} {e:TypeId} {size n:Nat} {v:Value} {xs:List Value} (h:W.ownsRow base e size v n xs):∃a c,v=.slice a n c:=by
 rcases h.2 with⟨rfl,h0⟩|⟨g',cap,cur,rfl,_⟩
 ·exact⟨none,0,by rw[h0]⟩
 ·exact⟨_,_,rfl⟩
section
variable {S:CSt} {N:Nat}
theorem heightB_any (ih:HAny S N) (n:Ck.Node) (ks:List Tree) (rest:List Ck.Node) (i h:Nat) (w:World) (hs:(Tree.mk n ks).size≤N+1) (hT:S.R.drop i=(Tree.mk n ks).row++rest) (hA:(Tree.mk n ks).all Three) (hh:h+5*(Tree.mk n ks).size≤1000000000000000) (hlim:S.R.length≤1099511627776) (hw:HW S w) (h5:(n.kind==5)=true) :
  Calls Tryz.prog 32 #[.pointer (some ⟨S.bp,0,none⟩),.int .i64 i,.int .i64 h] w fun e w'=>e=.returned (.int .i64 ((Tree.mk n ks).height h:Nat))∧Fr [] w w':=by
 obtain⟨cs,hb,hcs⟩:=hw.rcd
 obtain⟨hrow,hnode⟩:=row_tail hT
 have hil:(i:Int)<S.R.length:=by have:=(List.getElem?_eq_some_iff.1 hnode).1;omega
 have hW1:HW S ((w.alloc (.cells #[.pointer (some ⟨S.bp,0,none⟩)] 45)).alloc (.cells #[.int .i64 h] 3)):=hw.fr (((Fr.refl [] _).alloc _).alloc _) (by simp) (by simp)
 obtain⟨cs1,hb1,hcs1⟩:=hW1.rcd
 have hk:=kids_any S.bp S.R rest i S.g S.c n ks hT hlim _ hW1.row cs1 hb1 hcs1
 have hbc:=(Blk.new w #[.pointer (some ⟨S.bp,0,none⟩)] 45).alloc (.cells #[.int .i64 h] 3)
 have hbm:=Blk.new (w.alloc (.cells #[.pointer (some ⟨S.bp,0,none⟩)] 45)) #[.int .i64 h] 3
 simp only[World.size_alloc]at hbm
 have HK:=Lib.hid hnode;have HT:=Lib.hid hT;have HWW:=Lib.hid hw;have HL:=Lib.hid hlim
 have HF1:=Lib.hid (((Fr.refl [] w).alloc (.cells #[.pointer (some ⟨S.bp,0,none⟩)] 45)).alloc (.cells #[.int .i64 h] 3))
 have HW1:=Lib.hid hW1
 clear hnode hT hw hb hcs hb1 hcs1 hlim
 clear hW1
 go_enter Tryz.func32,Tryz.ntmps32
 go_wp2_with (first|(go_at_call 31;refine hk.mono ?_;rintro e w1 ⟨v,rfl,hown,hf1⟩;obtain⟨sa,scap,rfl⟩:=owns_form hown;obtain⟨mc,mz,mset,mb⟩:=(hbm.fr hf1 (by simp)).rules;obtain⟨cc,cz,cset,cb⟩:=(hbc.fr hf1 (by simp)).rules;obtain⟨cs2,b2,d2⟩:=(HW1.out.fr hf1 (by simp) (by simp)).rcd;obtain⟨rc,rz,rset,rb⟩:=b2.rules;have rc0:w1.cell? ⟨S.bp,0,none⟩=some (.slice (some ⟨S.g,0,none⟩) S.R.length S.c):=(rc 0).trans d2;have nrow:=(HW1.out.fr hf1 (by simp) (by simp)).row.cells i _ HK.out;have n0:w1.cell? ⟨S.g,i*6,none⟩=some (.int .i64 n.kind):=nrow 0 (by omega);have n1:w1.cell? ⟨S.g,i*6+1,none⟩=some (.int .i64 n.at'):=nrow 1 (by omega);have n2:w1.cell? ⟨S.g,i*6+2,none⟩=some (.int .i64 (ks.length:Int)):=nrow 2 (by omega);have n3:w1.cell? ⟨S.g,i*6+3,none⟩=some (.string ⟨n.text.toArray⟩):=nrow 3 (by omega);have n4:w1.cell? ⟨S.g,i*6+4,none⟩=some (.int .i64 n.int):=nrow 4 (by omega);have n5:w1.cell? ⟨S.g,i*6+5,none⟩=some (.int .u64 n.bits):=nrow 5 (by omega);clear rc nrow))
 obtain⟨w2,hw2⟩:∃w2,w1.alloc (.cells #[.int .i64 n.kind,.int .i64 n.at',.int .i64 (ks.length:Int),.string ⟨n.text.toArray⟩,.int .i64 n.int,.int .u64 n.bits] 40)=w2:=⟨_,rfl⟩
 rw[hw2]
 have hf2:Fr [] w1 w2:=by rw[←hw2];exact(Fr.refl _ _).alloc _
 clear hw2
 have HM:Hid (∃m,heightB (ks.drop 0) h m=(Tree.mk n ks).height h∧m≤h+5*sizes ks∧Blk w2 (w.heap.size+1) #[.int .i64 m] 3∧Fr [w.heap.size+1] w2 w2):=⟨h,by unfold Tree.height;simp[h5],by omega,(hbm.fr hf1 (by simp)).fr hf2 (by simp),Fr.refl _ _⟩
 go_loopw [2,12,48] (fun h2 _x j wr=>∃(q hh:Nat),j=.int .i64 q∧h2=.int .i64 hh∧q≤ks.length∧hh≤h+q∧Hid (∃m,heightB (ks.drop q) hh m=(Tree.mk n ks).height h∧m≤h+5*sizes ks∧Blk wr (w.heap.size+1) #[.int .i64 m] 3∧Fr [w.heap.size+1] w2 wr)) (fun _ _ j _=>ks.length-(intOf j).toNat)
 case atStart=>exact⟨0,h,rfl,rfl,Nat.zero_le _,Nat.le_refl _,HM.out⟩
 case round =>
  obtain⟨q,hh,rfl,rfl,hq1,hq2,hq⟩:=hrel
  obtain⟨m,e1,e2,e3,e4⟩:=hq.out
  clear hq
  by_cases hlt:q<ks.length
  ·obtain⟨t,ht⟩:∃t,ks[q]? = some t:=⟨_,List.getElem?_eq_getElem hlt⟩
   have hsplit:ks.drop q=t::ks.drop (q+1):=by
    rw[List.drop_eq_getElem_cons hlt]
    rw[List.getElem?_eq_getElem hlt]at ht
    rw[Option.some.inj ht]
   obtain⟨p,rest',hp,hTp⟩:=kid_at hrow ht
   obtain⟨g',cap',hv,hgb,hgl⟩:=hown.form (by omega)
   cases hv
   have hsz2:=hf1.size
   have hsz3:=hf2.size
   simp at hgb hsz2
   have hcell:wr.cell? ⟨g',q,none⟩=some (.int .i64 (p:Int)):=by
    refine e4.cell (hf2.cell ?_ (by simp)) (by simp;omega)
    rw[hown.cellAt q (by omega)]
    simp[ivals,hp]
   have hbw:=HWW.out.row.gl
   obtain⟨cs3,hb3,_⟩:=HWW.out.rcd
   have hbl:=hb3.lt
   have HWr:HW S wr:=((HW1.out.fr hf1 (by simp) (by simp)).fr hf2 (by simp) (by simp)).fr e4 (by simp;omega) (by simp;omega)
   obtain⟨cs4,hb4,hc4⟩:=HWr.rcd
   obtain⟨xc,xz,xset,xb⟩:=hb4.rules
   have xc0:wr.cell? ⟨S.bp,0,none⟩=some (.slice (some ⟨S.g,0,none⟩) S.R.length S.c):=(xc 0).trans hc4
   have hbcr:Blk wr w.heap.size #[.pointer (some ⟨S.bp,0,none⟩)] 45:=((hbc.fr hf1 (by simp)).fr hf2 (by simp)).fr e4 (by simp)
   have hpn:S.R[p]? = some { t.n with kids:=(t.ks.length:Int) }:=by
    obtain⟨tn,tk⟩:=t
    exact(row_tail hTp).2
   have hpl:(p:Int)<S.R.length:=by have:=(List.getElem?_eq_some_iff.1 hpn).1;omega
   have hpk:wr.cell? ⟨S.g,p*6,none⟩=some (.int .i64 t.n.kind):=HWr.row.cells p _ hpn 0 (by omega)
   have hts:=sizes_at ht
   have htA:t.all Three:=alls_mem hA.2 t (List.mem_of_getElem? ht)
   have hszT:(Tree.mk n ks).size=sizes ks+1:=by simp[Tree.size]
   have hup:=up_any ih t rest' p hh m (w.heap.size+1) w.heap.size wr (by omega) hTp htA (by omega) (by omega) HWr e3 hbcr
   have hle:=height_le t hh
   have hB:heightB (ks.drop q) hh m=heightB (ks.drop (q+1)) (if t.n.kind==6 then hh+1 else hh) (max m (t.height hh)):=by rw[hsplit];rfl
   rw[hB]at e1
   have E1:=Lib.hid e1
   have hbpn:S.bp∉[w.heap.size+1]:=by simp;omega
   have hgn:S.g∉[w.heap.size+1]:=by simp;omega
   have hbcn:w.heap.size∉[w.heap.size+1]:=by simp
   clear hsplit hp hTp hrow hb3 hb4 htA e1 hB
   cases h6:(t.n.kind==6)
   ·go_wp2_with (first|(go_at_call 64;refine hup.mono ?_;rintro e w5 ⟨rfl,hb5,hf5⟩;have hc5:=hbcr.fr hf5 hbcn;obtain⟨yc,yz,yset,yb⟩:=hc5.rules;have hpk5:w5.cell? ⟨S.g,p*6,none⟩=some (.int .i64 t.n.kind):=hf5.cell hpk hgn;have xc5:w5.cell? ⟨S.bp,0,none⟩=some (.slice (some ⟨S.g,0,none⟩) S.R.length S.c):=hf5.cell xc0 hbpn))
    go_roundw
    case rel =>
     have E2:=E1.out
     rw[h6]at E2
     exact⟨q+1,hh,by go_num,rfl,by omega,by omega,max m (t.height hh),E2,by omega,hb5,e4.trans hf5⟩
    case measure=>simp[intOf];omega
   ·go_wp2_with (first|(go_at_call 64;refine hup.mono ?_;rintro e w5 ⟨rfl,hb5,hf5⟩;have hc5:=hbcr.fr hf5 hbcn;obtain⟨yc,yz,yset,yb⟩:=hc5.rules;have hpk5:w5.cell? ⟨S.g,p*6,none⟩=some (.int .i64 t.n.kind):=hf5.cell hpk hgn;have xc5:w5.cell? ⟨S.bp,0,none⟩=some (.slice (some ⟨S.g,0,none⟩) S.R.length S.c):=hf5.cell xc0 hbpn))
    go_roundw
    case rel =>
     have E2:=E1.out
     rw[h6]at E2
     exact⟨q+1,hh+1,by go_num,by go_num,by omega,by omega,max m (t.height hh),E2,by omega,hb5,e4.trans hf5⟩
    case measure=>simp[intOf];omega
  ·obtain rfl:q=ks.length:=by omega
   obtain⟨kc,kz,kset,kb⟩:=e3.rules
   rw[List.drop_length]at e1
   have e1':m=(Tree.mk n ks).height h:=e1
   have E1:=Lib.hid e1'
   clear e1 e1'
   go_wp2
   go_ret
   exact⟨by rw[←E1.out];rfl,((HF1.out.trans hf1).trans hf2).then e4 (fun x hx=>.inr (by obtain rfl:x=w.heap.size+1:=(by simpa using hx);omega))⟩
end
theorem kb {a k:Int} (h:a=k) (c:Int):(a==c)=(k==c):=by rw[h]
section
variable {S:CSt} {N:Nat}
theorem heightKC_any (ih:HAny S N) (n:Ck.Node) (ks:List Tree) (rest:List Ck.Node) (i h:Nat) (w:World) (hs:(Tree.mk n ks).size≤N+1) (hT:S.R.drop i=(Tree.mk n ks).row++rest) (hA:(Tree.mk n ks).all Three) (hh:h+5*(Tree.mk n ks).size≤1000000000000000) (hlim:S.R.length≤1099511627776) (hw:HW S w) (hm:n.kind=21∨n.kind=24∨n.kind=23) :
  Calls Tryz.prog 32 #[.pointer (some ⟨S.bp,0,none⟩),.int .i64 i,.int .i64 h] w fun e w'=>e=.returned (.int .i64 ((Tree.mk n ks).height h:Nat))∧Fr [] w w':=by
 rcases hm with hk|hk|hk
 all_goals
  have h5:=kb hk 5;have h11:=kb hk 11;have h21:=kb hk 21;have h24:=kb hk 24;have h23:=kb hk 23;have h8:=kb hk 8
  simp only[Int.reduceBEq]at h5 h11 h21 h24 h23 h8
  clear hk
  obtain⟨cs,hb,hcs⟩:=hw.rcd
  obtain⟨hrow,hnode⟩:=row_tail hT
  have hil:(i:Int)<S.R.length:=by have:=(List.getElem?_eq_some_iff.1 hnode).1;omega
  have hW1:HW S ((w.alloc (.cells #[.pointer (some ⟨S.bp,0,none⟩)] 45)).alloc (.cells #[.int .i64 h] 3)):=hw.fr (((Fr.refl [] _).alloc _).alloc _) (by simp) (by simp)
  obtain⟨cs1,hb1,hcs1⟩:=hW1.rcd
  have hk:=kids_any S.bp S.R rest i S.g S.c n ks hT hlim _ hW1.row cs1 hb1 hcs1
  have hbc:=(Blk.new w #[.pointer (some ⟨S.bp,0,none⟩)] 45).alloc (.cells #[.int .i64 h] 3)
  have hbm:=Blk.new (w.alloc (.cells #[.pointer (some ⟨S.bp,0,none⟩)] 45)) #[.int .i64 h] 3
  simp only[World.size_alloc]at hbm
  have HK:=Lib.hid hnode;have HT:=Lib.hid hT;have HWW:=Lib.hid hw;have HL:=Lib.hid hlim
  have HF1:=Lib.hid (((Fr.refl [] w).alloc (.cells #[.pointer (some ⟨S.bp,0,none⟩)] 45)).alloc (.cells #[.int .i64 h] 3))
  have HW1:=Lib.hid hW1
  clear hnode hT hw hb hcs hb1 hcs1 hlim
  clear hW1
  go_enter Tryz.func32,Tryz.ntmps32
  go_wp2_with (first|(go_at_call 31;refine hk.mono ?_;rintro e w1 ⟨v,rfl,hown,hf1⟩;obtain⟨sa,scap,rfl⟩:=owns_form hown;obtain⟨mc,mz,mset,mb⟩:=(hbm.fr hf1 (by simp)).rules;obtain⟨cc,cz,cset,cb⟩:=(hbc.fr hf1 (by simp)).rules;obtain⟨cs2,b2,d2⟩:=(HW1.out.fr hf1 (by simp) (by simp)).rcd;obtain⟨rc,rz,rset,rb⟩:=b2.rules;have rc0:w1.cell? ⟨S.bp,0,none⟩=some (.slice (some ⟨S.g,0,none⟩) S.R.length S.c):=(rc 0).trans d2;have nrow:=(HW1.out.fr hf1 (by simp) (by simp)).row.cells i _ HK.out;have n0:w1.cell? ⟨S.g,i*6,none⟩=some (.int .i64 n.kind):=nrow 0 (by omega);have n1:w1.cell? ⟨S.g,i*6+1,none⟩=some (.int .i64 n.at'):=nrow 1 (by omega);have n2:w1.cell? ⟨S.g,i*6+2,none⟩=some (.int .i64 (ks.length:Int)):=nrow 2 (by omega);have n3:w1.cell? ⟨S.g,i*6+3,none⟩=some (.string ⟨n.text.toArray⟩):=nrow 3 (by omega);have n4:w1.cell? ⟨S.g,i*6+4,none⟩=some (.int .i64 n.int):=nrow 4 (by omega);have n5:w1.cell? ⟨S.g,i*6+5,none⟩=some (.int .u64 n.bits):=nrow 5 (by omega);clear rc nrow))
  obtain⟨w2,hw2⟩:∃w2,w1.alloc (.cells #[.int .i64 n.kind,.int .i64 n.at',.int .i64 (ks.length:Int),.string ⟨n.text.toArray⟩,.int .i64 n.int,.int .u64 n.bits] 40)=w2:=⟨_,rfl⟩
  rw[hw2]
  have hf2:Fr [w.heap.size+1] w1 w2:=by rw[←hw2];exact(Fr.refl _ _).alloc _
  have hbm2:Blk w2 (w.heap.size+1) #[.int .i64 (h:Int)] 3:=by rw[←hw2];exact(hbm.fr hf1 (by simp)).alloc _
  have hnb2:Blk w2 w1.heap.size #[.int .i64 n.kind,.int .i64 n.at',.int .i64 (ks.length:Int),.string ⟨n.text.toArray⟩,.int .i64 n.int,.int .u64 n.bits] 40:=by rw[←hw2];exact Blk.new _ _ _
  clear hw2
  have HM:Hid (∃m,max m (heightC (ks.drop 0) (h+0))=max h (heightC ks h)∧m≤h+5*(sizes ks+1)∧Blk w2 (w.heap.size+1) #[.int .i64 (m:Nat)] 3∧Fr [w.heap.size+1] w1 w2∧Fr [w.heap.size+1] w2 w2):=⟨h,by simp,by omega,hbm2,hf2,Fr.refl _ _⟩
  go_loopw [13,14,106] (fun _x _y j wr=>∃(q:Nat),j=.int .i64 q∧q≤ks.length∧Hid (∃m,max m (heightC (ks.drop q) (h+q))=max h (heightC ks h)∧m≤h+5*(sizes ks+1)∧Blk wr (w.heap.size+1) #[.int .i64 (m:Nat)] 3∧Fr [w.heap.size+1] w1 wr∧Fr [w.heap.size+1] w2 wr)) (fun _ _ j _=>ks.length-(intOf j).toNat)
  case atStart=>exact⟨0,rfl,Nat.zero_le _,HM.out⟩
  case round =>
   obtain⟨q,rfl,hq1,hq⟩:=hrel
   obtain⟨m,e1,e2,e3,e4,e5⟩:=hq.out
   clear hq
   by_cases hlt:q<ks.length
   ·obtain⟨t,ht⟩:∃t,ks[q]? = some t:=⟨_,List.getElem?_eq_getElem hlt⟩
    have hsplit:ks.drop q=t::ks.drop (q+1):=by
     rw[List.drop_eq_getElem_cons hlt]
     rw[List.getElem?_eq_getElem hlt]at ht
     rw[Option.some.inj ht]
    obtain⟨p,rest',hp,hTp⟩:=kid_at hrow ht
    obtain⟨g',cap',hv,hgb,hgl⟩:=hown.form (by omega)
    cases hv
    have hsz2:=hf1.size
    simp at hgb hsz2
    have hcell:wr.cell? ⟨g',q,none⟩=some (.int .i64 (p:Int)):=by
     refine e4.cell ?_ (by simp;omega)
     rw[hown.cellAt q (by omega)]
     simp[ivals,hp]
    have hbw:=HWW.out.row.gl
    obtain⟨cs3,hb3,_⟩:=HWW.out.rcd
    have hbl:=hb3.lt
    have HWr:HW S wr:=(HW1.out.fr hf1 (by simp) (by simp)).fr e4 (by simp;omega) (by simp;omega)
    obtain⟨cs4,hb4,hc4⟩:=HWr.rcd
    obtain⟨xc,xz,xset,xb⟩:=hb4.rules
    have xc0:wr.cell? ⟨S.bp,0,none⟩=some (.slice (some ⟨S.g,0,none⟩) S.R.length S.c):=(xc 0).trans hc4
    have hbcr:Blk wr w.heap.size #[.pointer (some ⟨S.bp,0,none⟩)] 45:=(hbc.fr hf1 (by simp)).fr e4 (by simp)
    have hpn:S.R[p]? = some { t.n with kids:=(t.ks.length:Int) }:=by
     obtain⟨tn,tk⟩:=t
     exact(row_tail hTp).2
    have hpl:(p:Int)<S.R.length:=by have:=(List.getElem?_eq_some_iff.1 hpn).1;omega
    have hpk:wr.cell? ⟨S.g,p*6,none⟩=some (.int .i64 t.n.kind):=HWr.row.cells p _ hpn 0 (by omega)
    have hts:=sizes_at ht
    have htA:t.all Three:=alls_mem hA.2 t (List.mem_of_getElem? ht)
    have hszT:(Tree.mk n ks).size=sizes ks+1:=by simp[Tree.size]
    have hup:=up_any ih t rest' p (h+q) m (w.heap.size+1) w.heap.size wr (by omega) hTp htA (by omega) (by omega) HWr e3 hbcr
    have hle:=height_le t (h+q)
    have hB:max m (heightC (ks.drop q) (h+q))=max (max m (t.height (h+q))) (heightC (ks.drop (q+1)) (h+q+1)):=by rw[hsplit];simp only[heightC];omega
    rw[hB]at e1
    have E1:=Lib.hid e1
    have hbpn:S.bp∉[w.heap.size+1]:=by simp;omega
    have hgn:S.g∉[w.heap.size+1]:=by simp;omega
    have hbcn:w.heap.size∉[w.heap.size+1]:=by simp
    clear hsplit hp hTp hrow hb3 hb4 htA e1 hB
    go_wp2_with (first|(go_at_call 64;refine hup.mono ?_;rintro e w5 ⟨rfl,hb5,hf5⟩;have hc5:=hbcr.fr hf5 hbcn;obtain⟨yc,yz,yset,yb⟩:=hc5.rules;have hpk5:w5.cell? ⟨S.g,p*6,none⟩=some (.int .i64 t.n.kind):=hf5.cell hpk hgn;have xc5:w5.cell? ⟨S.bp,0,none⟩=some (.slice (some ⟨S.g,0,none⟩) S.R.length S.c):=hf5.cell xc0 hbpn))
    go_roundw
    case rel=>exact⟨q+1,by go_num,by omega,max m (t.height (h+q)),by simpa[Nat.add_assoc]using E1.out,by omega,hb5,e4.trans hf5,e5.trans hf5⟩
    case measure=>simp[intOf];omega
   ·obtain rfl:q=ks.length:=by omega
    obtain⟨kc,kz,kset,kb⟩:=e3.rules
    rw[List.drop_length]at e1
    have e1':max m (h+1)=(Tree.mk n ks).height h:=by
     unfold Tree.height
     simp[heightC,h5,h11,h21,h24,h23,h8]at e1 ⊢
     try omega
    have E1:=Lib.hid e1'
    clear e1 e1'
    have hsz9:=hf1.size
    simp at hsz9
    obtain⟨vc,vz,vset,vb⟩:=(hnb2.fr e5 (by simp;omega)).rules
    go_wp2
    go_ret
    exact⟨by rw[←E1.out];first|rfl|(show Ending.returned (Value.int .i64 (max (m:Int) ((h:Int)+1)))=_;congr 2;omega),(((HF1.out.trans hf1).then e4 (fun x hx=>.inr (by have:=List.mem_singleton.1 hx;omega)))).blk (.inr (by omega)) _ _⟩
theorem heightK8_any (ih:HAny S N) (n:Ck.Node) (ks:List Tree) (rest:List Ck.Node) (i h:Nat) (w:World) (hs:(Tree.mk n ks).size≤N+1) (hT:S.R.drop i=(Tree.mk n ks).row++rest) (hA:(Tree.mk n ks).all Three) (hh:h+5*(Tree.mk n ks).size≤1000000000000000) (hlim:S.R.length≤1099511627776) (hw:HW S w) (hm:n.kind=8) :
  Calls Tryz.prog 32 #[.pointer (some ⟨S.bp,0,none⟩),.int .i64 i,.int .i64 h] w fun e w'=>e=.returned (.int .i64 ((Tree.mk n ks).height h:Nat))∧Fr [] w w':=by
 have hk:=hm
 clear hm
 have h5:=kb hk 5;have h11:=kb hk 11;have h21:=kb hk 21;have h24:=kb hk 24;have h23:=kb hk 23;have h8:=kb hk 8
 simp only[Int.reduceBEq]at h5 h11 h21 h24 h23 h8
 clear hk
 obtain⟨cs,hb,hcs⟩:=hw.rcd
 obtain⟨hrow,hnode⟩:=row_tail hT
 have hil:(i:Int)<S.R.length:=by have:=(List.getElem?_eq_some_iff.1 hnode).1;omega
 have hW1:HW S ((w.alloc (.cells #[.pointer (some ⟨S.bp,0,none⟩)] 45)).alloc (.cells #[.int .i64 h] 3)):=hw.fr (((Fr.refl [] _).alloc _).alloc _) (by simp) (by simp)
 obtain⟨cs1,hb1,hcs1⟩:=hW1.rcd
 have hk:=kids_any S.bp S.R rest i S.g S.c n ks hT hlim _ hW1.row cs1 hb1 hcs1
 have hbc:=(Blk.new w #[.pointer (some ⟨S.bp,0,none⟩)] 45).alloc (.cells #[.int .i64 h] 3)
 have hbm:=Blk.new (w.alloc (.cells #[.pointer (some ⟨S.bp,0,none⟩)] 45)) #[.int .i64 h] 3
 simp only[World.size_alloc]at hbm
 have HK:=Lib.hid hnode;have HT:=Lib.hid hT;have HWW:=Lib.hid hw;have HL:=Lib.hid hlim
 have HF1:=Lib.hid (((Fr.refl [] w).alloc (.cells #[.pointer (some ⟨S.bp,0,none⟩)] 45)).alloc (.cells #[.int .i64 h] 3))
 have HW1:=Lib.hid hW1
 clear hnode hT hw hb hcs hb1 hcs1 hlim
 clear hW1
 go_enter Tryz.func32,Tryz.ntmps32
 go_wp2_with (first|(go_at_call 31;refine hk.mono ?_;rintro e w1 ⟨v,rfl,hown,hf1⟩;obtain⟨sa,scap,rfl⟩:=owns_form hown;obtain⟨mc,mz,mset,mb⟩:=(hbm.fr hf1 (by simp)).rules;obtain⟨cc,cz,cset,cb⟩:=(hbc.fr hf1 (by simp)).rules;obtain⟨cs2,b2,d2⟩:=(HW1.out.fr hf1 (by simp) (by simp)).rcd;obtain⟨rc,rz,rset,rb⟩:=b2.rules;have rc0:w1.cell? ⟨S.bp,0,none⟩=some (.slice (some ⟨S.g,0,none⟩) S.R.length S.c):=(rc 0).trans d2;have nrow:=(HW1.out.fr hf1 (by simp) (by simp)).row.cells i _ HK.out;have n0:w1.cell? ⟨S.g,i*6,none⟩=some (.int .i64 n.kind):=nrow 0 (by omega);have n1:w1.cell? ⟨S.g,i*6+1,none⟩=some (.int .i64 n.at'):=nrow 1 (by omega);have n2:w1.cell? ⟨S.g,i*6+2,none⟩=some (.int .i64 (ks.length:Int)):=nrow 2 (by omega);have n3:w1.cell? ⟨S.g,i*6+3,none⟩=some (.string ⟨n.text.toArray⟩):=nrow 3 (by omega);have n4:w1.cell? ⟨S.g,i*6+4,none⟩=some (.int .i64 n.int):=nrow 4 (by omega);have n5:w1.cell? ⟨S.g,i*6+5,none⟩=some (.int .u64 n.bits):=nrow 5 (by omega);clear rc nrow))
 obtain⟨w2,hw2⟩:∃w2,w1.alloc (.cells #[.int .i64 n.kind,.int .i64 n.at',.int .i64 (ks.length:Int),.string ⟨n.text.toArray⟩,.int .i64 n.int,.int .u64 n.bits] 40)=w2:=⟨_,rfl⟩
 rw[hw2]
 have hf2:Fr [w.heap.size+1] w1 w2:=by rw[←hw2];exact(Fr.refl _ _).alloc _
 have hbm2:Blk w2 (w.heap.size+1) #[.int .i64 (h:Int)] 3:=by rw[←hw2];exact(hbm.fr hf1 (by simp)).alloc _
 have hnb2:Blk w2 w1.heap.size #[.int .i64 n.kind,.int .i64 n.at',.int .i64 (ks.length:Int),.string ⟨n.text.toArray⟩,.int .i64 n.int,.int .u64 n.bits] 40:=by rw[←hw2];exact Blk.new _ _ _
 clear hw2
 have HM:Hid (∃m,max m (heightC (ks.drop 0) (h+0))=max h (heightC ks h)∧m≤h+5*(sizes ks+1)∧Blk w2 (w.heap.size+1) #[.int .i64 (m:Nat)] 3∧Fr [w.heap.size+1] w1 w2∧Fr [w.heap.size+1] w2 w2):=⟨h,by simp,by omega,hbm2,hf2,Fr.refl _ _⟩
 go_loopw [13,14,106] (fun _x _y j wr=>∃(q:Nat),j=.int .i64 q∧q≤ks.length∧Hid (∃m,max m (heightC (ks.drop q) (h+q))=max h (heightC ks h)∧m≤h+5*(sizes ks+1)∧Blk wr (w.heap.size+1) #[.int .i64 (m:Nat)] 3∧Fr [w.heap.size+1] w1 wr∧Fr [w.heap.size+1] w2 wr)) (fun _ _ j _=>ks.length-(intOf j).toNat)
 case atStart=>exact⟨0,rfl,Nat.zero_le _,HM.out⟩
 case round =>
  obtain⟨q,rfl,hq1,hq⟩:=hrel
  obtain⟨m,e1,e2,e3,e4,e5⟩:=hq.out
  clear hq
  by_cases hlt:q<ks.length
  ·obtain⟨t,ht⟩:∃t,ks[q]? = some t:=⟨_,List.getElem?_eq_getElem hlt⟩
   have hsplit:ks.drop q=t::ks.drop (q+1):=by
    rw[List.drop_eq_getElem_cons hlt]
    rw[List.getElem?_eq_getElem hlt]at ht
    rw[Option.some.inj ht]
   obtain⟨p,rest',hp,hTp⟩:=kid_at hrow ht
   obtain⟨g',cap',hv,hgb,hgl⟩:=hown.form (by omega)
   cases hv
   have hsz2:=hf1.size
   simp at hgb hsz2
   have hcell:wr.cell? ⟨g',q,none⟩=some (.int .i64 (p:Int)):=by
    refine e4.cell ?_ (by simp;omega)
    rw[hown.cellAt q (by omega)]
    simp[ivals,hp]
   have hbw:=HWW.out.row.gl
   obtain⟨cs3,hb3,_⟩:=HWW.out.rcd
   have hbl:=hb3.lt
   have HWr:HW S wr:=(HW1.out.fr hf1 (by simp) (by simp)).fr e4 (by simp;omega) (by simp;omega)
   obtain⟨cs4,hb4,hc4⟩:=HWr.rcd
   obtain⟨xc,xz,xset,xb⟩:=hb4.rules
   have xc0:wr.cell? ⟨S.bp,0,none⟩=some (.slice (some ⟨S.g,0,none⟩) S.R.length S.c):=(xc 0).trans hc4
   have hbcr:Blk wr w.heap.size #[.pointer (some ⟨S.bp,0,none⟩)] 45:=(hbc.fr hf1 (by simp)).fr e4 (by simp)
   have hpn:S.R[p]? = some { t.n with kids:=(t.ks.length:Int) }:=by
    obtain⟨tn,tk⟩:=t
    exact(row_tail hTp).2
   have hpl:(p:Int)<S.R.length:=by have:=(List.getElem?_eq_some_iff.1 hpn).1;omega
   have hpk:wr.cell? ⟨S.g,p*6,none⟩=some (.int .i64 t.n.kind):=HWr.row.cells p _ hpn 0 (by omega)
   have hts:=sizes_at ht
   have htA:t.all Three:=alls_mem hA.2 t (List.mem_of_getElem? ht)
   have hszT:(Tree.mk n ks).size=sizes ks+1:=by simp[Tree.size]
   have hup:=up_any ih t rest' p (h+q) m (w.heap.size+1) w.heap.size wr (by omega) hTp htA (by omega) (by omega) HWr e3 hbcr
   have hle:=height_le t (h+q)
   have hB:max m (heightC (ks.drop q) (h+q))=max (max m (t.height (h+q))) (heightC (ks.drop (q+1)) (h+q+1)):=by rw[hsplit];simp only[heightC];omega
   rw[hB]at e1
   have E1:=Lib.hid e1
   have hbpn:S.bp∉[w.heap.size+1]:=by simp;omega
   have hgn:S.g∉[w.heap.size+1]:=by simp;omega
   have hbcn:w.heap.size∉[w.heap.size+1]:=by simp
   clear hsplit hp hTp hrow hb3 hb4 htA e1 hB
   go_wp2_with (first|(go_at_call 64;refine hup.mono ?_;rintro e w5 ⟨rfl,hb5,hf5⟩;have hc5:=hbcr.fr hf5 hbcn;obtain⟨yc,yz,yset,yb⟩:=hc5.rules;have hpk5:w5.cell? ⟨S.g,p*6,none⟩=some (.int .i64 t.n.kind):=hf5.cell hpk hgn;have xc5:w5.cell? ⟨S.bp,0,none⟩=some (.slice (some ⟨S.g,0,none⟩) S.R.length S.c):=hf5.cell xc0 hbpn))
   go_roundw
   case rel=>exact⟨q+1,by go_num,by omega,max m (t.height (h+q)),by simpa[Nat.add_assoc]using E1.out,by omega,hb5,e4.trans hf5,e5.trans hf5⟩
   case measure=>simp[intOf];omega
  ·obtain rfl:q=ks.length:=by omega
   obtain⟨kc,kz,kset,kb⟩:=e3.rules
   rw[List.drop_length]at e1
   have e1':m=(Tree.mk n ks).height h:=by
    unfold Tree.height
    simp[heightC,h5,h11,h21,h24,h23,h8]at e1 ⊢
    try omega
   have E1:=Lib.hid e1'
   clear e1 e1'
   have hsz9:=hf1.size
   simp at hsz9
   obtain⟨vc,vz,vset,vb⟩:=(hnb2.fr e5 (by simp;omega)).rules
   go_wp2
   go_ret
   exact⟨by rw[←E1.out];first|rfl|(show Ending.returned (Value.int .i64 (max (m:Int) ((h:Int)+1)))=_;congr 2;omega),((HF1.out.trans hf1).then e4 (fun x hx=>.inr (by have:=List.mem_singleton.1 hx;omega)))⟩
theorem heightKS_any (ih:HAny S N) (n:Ck.Node) (ks:List Tree) (rest:List Ck.Node) (i h:Nat) (w:World) (hs:(Tree.mk n ks).size≤N+1) (hT:S.R.drop i=(Tree.mk n ks).row++rest) (hA:(Tree.mk n ks).all Three) (hh:h+5*(Tree.mk n ks).size≤1000000000000000) (hlim:S.R.length≤1099511627776) (hw:HW S w) (hm:n.kind=18∨n.kind=19∨n.kind=20∨n.kind=22∨n.kind=25∨n.kind=26∨n.kind=27∨n.kind=28∨n.kind=29∨n.kind=30∨n.kind=31) :
  Calls Tryz.prog 32 #[.pointer (some ⟨S.bp,0,none⟩),.int .i64 i,.int .i64 h] w fun e w'=>e=.returned (.int .i64 ((Tree.mk n ks).height h:Nat))∧Fr [] w w':=by
 rcases hm with hk|hk|hk|hk|hk|hk|hk|hk|hk|hk|hk
 all_goals
  have h5:=kb hk 5;have h11:=kb hk 11;have h21:=kb hk 21;have h24:=kb hk 24;have h23:=kb hk 23;have h8:=kb hk 8;have h18:=kb hk 18;have h19:=kb hk 19;have h20:=kb hk 20;have h22:=kb hk 22;have h25:=kb hk 25;have h26:=kb hk 26;have h27:=kb hk 27;have h28:=kb hk 28;have h29:=kb hk 29;have h30:=kb hk 30;have h31:=kb hk 31
  simp only[Int.reduceBEq]at h5 h11 h21 h24 h23 h8 h18 h19 h20 h22 h25 h26 h27 h28 h29 h30 h31
  try (have hge:25≤n.kind:=by omega)
  clear hk
  obtain⟨cs,hb,hcs⟩:=hw.rcd
  obtain⟨hrow,hnode⟩:=row_tail hT
  have hil:(i:Int)<S.R.length:=by have:=(List.getElem?_eq_some_iff.1 hnode).1;omega
  have hW1:HW S ((w.alloc (.cells #[.pointer (some ⟨S.bp,0,none⟩)] 45)).alloc (.cells #[.int .i64 h] 3)):=hw.fr (((Fr.refl [] _).alloc _).alloc _) (by simp) (by simp)
  obtain⟨cs1,hb1,hcs1⟩:=hW1.rcd
  have hk:=kids_any S.bp S.R rest i S.g S.c n ks hT hlim _ hW1.row cs1 hb1 hcs1
  have hbc:=(Blk.new w #[.pointer (some ⟨S.bp,0,none⟩)] 45).alloc (.cells #[.int .i64 h] 3)
  have hbm:=Blk.new (w.alloc (.cells #[.pointer (some ⟨S.bp,0,none⟩)] 45)) #[.int .i64 h] 3
  simp only[World.size_alloc]at hbm
  have HK:=Lib.hid hnode;have HT:=Lib.hid hT;have HWW:=Lib.hid hw;have HL:=Lib.hid hlim
  have HF1:=Lib.hid (((Fr.refl [] w).alloc (.cells #[.pointer (some ⟨S.bp,0,none⟩)] 45)).alloc (.cells #[.int .i64 h] 3))
  have HW1:=Lib.hid hW1
  clear hnode hT hw hb hcs hb1 hcs1 hlim
  clear hW1
  go_enter Tryz.func32,Tryz.ntmps32
  go_wp2_with (first|(go_at_call 31;refine hk.mono ?_;rintro e w1 ⟨v,rfl,hown,hf1⟩;obtain⟨sa,scap,rfl⟩:=owns_form hown;obtain⟨mc,mz,mset,mb⟩:=(hbm.fr hf1 (by simp)).rules;obtain⟨cc,cz,cset,cb⟩:=(hbc.fr hf1 (by simp)).rules;obtain⟨cs2,b2,d2⟩:=(HW1.out.fr hf1 (by simp) (by simp)).rcd;obtain⟨rc,rz,rset,rb⟩:=b2.rules;have rc0:w1.cell? ⟨S.bp,0,none⟩=some (.slice (some ⟨S.g,0,none⟩) S.R.length S.c):=(rc 0).trans d2;have nrow:=(HW1.out.fr hf1 (by simp) (by simp)).row.cells i _ HK.out;have n0:w1.cell? ⟨S.g,i*6,none⟩=some (.int .i64 n.kind):=nrow 0 (by omega);have n1:w1.cell? ⟨S.g,i*6+1,none⟩=some (.int .i64 n.at'):=nrow 1 (by omega);have n2:w1.cell? ⟨S.g,i*6+2,none⟩=some (.int .i64 (ks.length:Int)):=nrow 2 (by omega);have n3:w1.cell? ⟨S.g,i*6+3,none⟩=some (.string ⟨n.text.toArray⟩):=nrow 3 (by omega);have n4:w1.cell? ⟨S.g,i*6+4,none⟩=some (.int .i64 n.int):=nrow 4 (by omega);have n5:w1.cell? ⟨S.g,i*6+5,none⟩=some (.int .u64 n.bits):=nrow 5 (by omega);clear rc nrow))
  obtain⟨w2,hw2⟩:∃w2,(blk w1 (w.heap.size+1) #[.int .i64 ((h:Int)+1)] 3).alloc (.cells #[.int .i64 n.kind,.int .i64 n.at',.int .i64 (ks.length:Int),.string ⟨n.text.toArray⟩,.int .i64 n.int,.int .u64 n.bits] 40)=w2:=⟨_,rfl⟩
  rw[hw2]
  have hf2:Fr [w.heap.size+1] w1 w2:=by rw[←hw2];exact((Fr.refl _ _).blk (.inl (by simp)) _ _).alloc _
  have hbm2:Blk w2 (w.heap.size+1) #[.int .i64 ((h+1:Nat):Int)] 3:=by rw[←hw2];exact(Blk.blk (hbm.fr hf1 (by simp)).lt).alloc _
  clear hw2
  have HM:Hid (∃m,max m (heightS (ks.drop 0) h)=max (h+1) (heightS ks h)∧m≤h+5*(sizes ks+1)∧Blk w2 (w.heap.size+1) #[.int .i64 (m:Nat)] 3∧Fr [w.heap.size+1] w1 w2∧Fr [w.heap.size+1] w2 w2):=⟨h+1,by simp,by omega,hbm2,hf2,Fr.refl _ _⟩
  go_loopw [16,141] (fun _x j wr=>∃(q:Nat),j=.int .i64 q∧q≤ks.length∧Hid (∃m,max m (heightS (ks.drop q) h)=max (h+1) (heightS ks h)∧m≤h+5*(sizes ks+1)∧Blk wr (w.heap.size+1) #[.int .i64 (m:Nat)] 3∧Fr [w.heap.size+1] w1 wr∧Fr [w.heap.size+1] w2 wr)) (fun _ j _=>ks.length-(intOf j).toNat)
  case atStart=>exact⟨0,rfl,Nat.zero_le _,HM.out⟩
  case round =>
   obtain⟨q,rfl,hq1,hq⟩:=hrel
   obtain⟨m,e1,e2,e3,e4,e5⟩:=hq.out
   clear hq
   by_cases hlt:q<ks.length
   ·obtain⟨t,ht⟩:∃t,ks[q]? = some t:=⟨_,List.getElem?_eq_getElem hlt⟩
    have hsplit:ks.drop q=t::ks.drop (q+1):=by
     rw[List.drop_eq_getElem_cons hlt]
     rw[List.getElem?_eq_getElem hlt]at ht
     rw[Option.some.inj ht]
    obtain⟨p,rest',hp,hTp⟩:=kid_at hrow ht
    obtain⟨g',cap',hv,hgb,hgl⟩:=hown.form (by omega)
    cases hv
    have hsz2:=hf1.size
    simp at hgb hsz2
    have hcell:wr.cell? ⟨g',q,none⟩=some (.int .i64 (p:Int)):=by
     refine e4.cell ?_ (by simp;omega)
     rw[hown.cellAt q (by omega)]
     simp[ivals,hp]
    have hbw:=HWW.out.row.gl
    obtain⟨cs3,hb3,_⟩:=HWW.out.rcd
    have hbl:=hb3.lt
    have HWr:HW S wr:=(HW1.out.fr hf1 (by simp) (by simp)).fr e4 (by simp;omega) (by simp;omega)
    obtain⟨cs4,hb4,hc4⟩:=HWr.rcd
    obtain⟨xc,xz,xset,xb⟩:=hb4.rules
    have xc0:wr.cell? ⟨S.bp,0,none⟩=some (.slice (some ⟨S.g,0,none⟩) S.R.length S.c):=(xc 0).trans hc4
    have hbcr:Blk wr w.heap.size #[.pointer (some ⟨S.bp,0,none⟩)] 45:=(hbc.fr hf1 (by simp)).fr e4 (by simp)
    have hpn:S.R[p]? = some { t.n with kids:=(t.ks.length:Int) }:=by
     obtain⟨tn,tk⟩:=t
     exact(row_tail hTp).2
    have hpl:(p:Int)<S.R.length:=by have:=(List.getElem?_eq_some_iff.1 hpn).1;omega
    have hpk:wr.cell? ⟨S.g,p*6,none⟩=some (.int .i64 t.n.kind):=HWr.row.cells p _ hpn 0 (by omega)
    have hts:=sizes_at ht
    have htA:t.all Three:=alls_mem hA.2 t (List.mem_of_getElem? ht)
    have hszT:(Tree.mk n ks).size=sizes ks+1:=by simp[Tree.size]
    have hup:=up_any ih t rest' p h m (w.heap.size+1) w.heap.size wr (by omega) hTp htA (by omega) (by omega) HWr e3 hbcr
    have hle:=height_le t h
    have hB:max m (heightS (ks.drop q) h)=max (max m (t.height h)) (heightS (ks.drop (q+1)) h):=by rw[hsplit];simp only[heightS];omega
    rw[hB]at e1
    have E1:=Lib.hid e1
    have hbpn:S.bp∉[w.heap.size+1]:=by simp;omega
    have hgn:S.g∉[w.heap.size+1]:=by simp;omega
    have hbcn:w.heap.size∉[w.heap.size+1]:=by simp
    clear hsplit hp hTp hrow hb3 hb4 htA e1 hB
    go_wp2_with (first|(go_at_call 64;refine hup.mono ?_;rintro e w5 ⟨rfl,hb5,hf5⟩;have hc5:=hbcr.fr hf5 hbcn;obtain⟨yc,yz,yset,yb⟩:=hc5.rules;have hpk5:w5.cell? ⟨S.g,p*6,none⟩=some (.int .i64 t.n.kind):=hf5.cell hpk hgn;have xc5:w5.cell? ⟨S.bp,0,none⟩=some (.slice (some ⟨S.g,0,none⟩) S.R.length S.c):=hf5.cell xc0 hbpn))
    go_roundw
    case rel=>exact⟨q+1,by go_num,by omega,max m (t.height h),E1.out,by omega,hb5,e4.trans hf5,e5.trans hf5⟩
    case measure=>simp[intOf];omega
   ·obtain rfl:q=ks.length:=by omega
    obtain⟨kc,kz,kset,kb⟩:=e3.rules
    rw[List.drop_length]at e1
    have e1':m=(Tree.mk n ks).height h:=by
     unfold Tree.height
     simp[heightS,h5,h11,h21,h24,h23,h8,h18,h19,h20,h22,h25,h26,h27,h28,h29,h30,h31]at e1 ⊢
     try (split<;>omega)
     try omega
    have E1:=Lib.hid e1'
    clear e1 e1'
    go_wp2
    go_ret
    exact⟨by rw[←E1.out];first|rfl|(show Ending.returned (Value.int .i64 (max (m:Int) ((h:Int)+1)))=_;congr 2;omega),((HF1.out.trans hf1).then e4 (fun x hx=>.inr (by have:=List.mem_singleton.1 hx;omega)))⟩
theorem heightS0_any (ih:HAny S N) (n:Ck.Node) (ks:List Tree) (rest:List Ck.Node) (i h:Nat) (w:World) (hs:(Tree.mk n ks).size≤N+1) (hT:S.R.drop i=(Tree.mk n ks).row++rest) (hA:(Tree.mk n ks).all Three) (hh:h+5*(Tree.mk n ks).size≤1000000000000000) (hlim:S.R.length≤1099511627776) (hw:HW S w) (h5:(n.kind==5)=false) (h11:(n.kind==11)=false) (h21:(n.kind==21)=false) (h24:(n.kind==24)=false) (h23:(n.kind==23)=false) (h8:(n.kind==8)=false) (h18:(n.kind==18)=false) (h19:(n.kind==19)=false) (h20:(n.kind==20)=false) (h22:(n.kind==22)=false) (h25:(n.kind==25)=false) (h26:(n.kind==26)=false) (h27:(n.kind==27)=false) (h28:(n.kind==28)=false) (h29:(n.kind==29)=false) (h30:(n.kind==30)=false) (h31:(n.kind==31)=false) (h32:n.kind≤31) :
  Calls Tryz.prog 32 #[.pointer (some ⟨S.bp,0,none⟩),.int .i64 i,.int .i64 h] w fun e w'=>e=.returned (.int .i64 ((Tree.mk n ks).height h:Nat))∧Fr [] w w':=by
 have hn25:¬(25≤n.kind):=by simp at h25 h26 h27 h28 h29 h30 h31;omega
 obtain⟨cs,hb,hcs⟩:=hw.rcd
 obtain⟨hrow,hnode⟩:=row_tail hT
 have hil:(i:Int)<S.R.length:=by have:=(List.getElem?_eq_some_iff.1 hnode).1;omega
 have hW1:HW S ((w.alloc (.cells #[.pointer (some ⟨S.bp,0,none⟩)] 45)).alloc (.cells #[.int .i64 h] 3)):=hw.fr (((Fr.refl [] _).alloc _).alloc _) (by simp) (by simp)
 obtain⟨cs1,hb1,hcs1⟩:=hW1.rcd
 have hk:=kids_any S.bp S.R rest i S.g S.c n ks hT hlim _ hW1.row cs1 hb1 hcs1
 have hbc:=(Blk.new w #[.pointer (some ⟨S.bp,0,none⟩)] 45).alloc (.cells #[.int .i64 h] 3)
 have hbm:=Blk.new (w.alloc (.cells #[.pointer (some ⟨S.bp,0,none⟩)] 45)) #[.int .i64 h] 3
 simp only[World.size_alloc]at hbm
 have HK:=Lib.hid hnode;have HT:=Lib.hid hT;have HWW:=Lib.hid hw;have HL:=Lib.hid hlim
 have HF1:=Lib.hid (((Fr.refl [] w).alloc (.cells #[.pointer (some ⟨S.bp,0,none⟩)] 45)).alloc (.cells #[.int .i64 h] 3))
 have HW1:=Lib.hid hW1
 clear hnode hT hw hb hcs hb1 hcs1 hlim
 clear hW1
 go_enter Tryz.func32,Tryz.ntmps32
 go_wp2_with (first|(go_at_call 31;refine hk.mono ?_;rintro e w1 ⟨v,rfl,hown,hf1⟩;obtain⟨sa,scap,rfl⟩:=owns_form hown;obtain⟨mc,mz,mset,mb⟩:=(hbm.fr hf1 (by simp)).rules;obtain⟨cc,cz,cset,cb⟩:=(hbc.fr hf1 (by simp)).rules;obtain⟨cs2,b2,d2⟩:=(HW1.out.fr hf1 (by simp) (by simp)).rcd;obtain⟨rc,rz,rset,rb⟩:=b2.rules;have rc0:w1.cell? ⟨S.bp,0,none⟩=some (.slice (some ⟨S.g,0,none⟩) S.R.length S.c):=(rc 0).trans d2;have nrow:=(HW1.out.fr hf1 (by simp) (by simp)).row.cells i _ HK.out;have n0:w1.cell? ⟨S.g,i*6,none⟩=some (.int .i64 n.kind):=nrow 0 (by omega);have n1:w1.cell? ⟨S.g,i*6+1,none⟩=some (.int .i64 n.at'):=nrow 1 (by omega);have n2:w1.cell? ⟨S.g,i*6+2,none⟩=some (.int .i64 (ks.length:Int)):=nrow 2 (by omega);have n3:w1.cell? ⟨S.g,i*6+3,none⟩=some (.string ⟨n.text.toArray⟩):=nrow 3 (by omega);have n4:w1.cell? ⟨S.g,i*6+4,none⟩=some (.int .i64 n.int):=nrow 4 (by omega);have n5:w1.cell? ⟨S.g,i*6+5,none⟩=some (.int .u64 n.bits):=nrow 5 (by omega);clear rc nrow))
 obtain⟨w2,hw2⟩:∃w2,w1.alloc (.cells #[.int .i64 n.kind,.int .i64 n.at',.int .i64 (ks.length:Int),.string ⟨n.text.toArray⟩,.int .i64 n.int,.int .u64 n.bits] 40)=w2:=⟨_,rfl⟩
 rw[hw2]
 have hf2:Fr [w.heap.size+1] w1 w2:=by rw[←hw2];exact(Fr.refl _ _).alloc _
 have hbm2:Blk w2 (w.heap.size+1) #[.int .i64 (h:Int)] 3:=by rw[←hw2];exact(hbm.fr hf1 (by simp)).alloc _
 have hnb2:Blk w2 w1.heap.size #[.int .i64 n.kind,.int .i64 n.at',.int .i64 (ks.length:Int),.string ⟨n.text.toArray⟩,.int .i64 n.int,.int .u64 n.bits] 40:=by rw[←hw2];exact Blk.new _ _ _
 clear hw2
 have HM:Hid (∃m,max m (heightS (ks.drop 0) h)=max h (heightS ks h)∧m≤h+5*(sizes ks+1)∧Blk w2 (w.heap.size+1) #[.int .i64 (m:Nat)] 3∧Fr [w.heap.size+1] w1 w2∧Fr [w.heap.size+1] w2 w2):=⟨h,by simp,by omega,hbm2,hf2,Fr.refl _ _⟩
 go_loopw [18,35] (fun _x j wr=>∃(q:Nat),j=.int .i64 q∧q≤ks.length∧Hid (∃m,max m (heightS (ks.drop q) h)=max h (heightS ks h)∧m≤h+5*(sizes ks+1)∧Blk wr (w.heap.size+1) #[.int .i64 (m:Nat)] 3∧Fr [w.heap.size+1] w1 wr∧Fr [w.heap.size+1] w2 wr)) (fun _ j _=>ks.length-(intOf j).toNat)
 case atStart=>exact⟨0,rfl,Nat.zero_le _,HM.out⟩
 case round =>
  obtain⟨q,rfl,hq1,hq⟩:=hrel
  obtain⟨m,e1,e2,e3,e4,e5⟩:=hq.out
  clear hq
  by_cases hlt:q<ks.length
  ·obtain⟨t,ht⟩:∃t,ks[q]? = some t:=⟨_,List.getElem?_eq_getElem hlt⟩
   have hsplit:ks.drop q=t::ks.drop (q+1):=by
    rw[List.drop_eq_getElem_cons hlt]
    rw[List.getElem?_eq_getElem hlt]at ht
    rw[Option.some.inj ht]
   obtain⟨p,rest',hp,hTp⟩:=kid_at hrow ht
   obtain⟨g',cap',hv,hgb,hgl⟩:=hown.form (by omega)
   cases hv
   have hsz2:=hf1.size
   simp at hgb hsz2
   have hcell:wr.cell? ⟨g',q,none⟩=some (.int .i64 (p:Int)):=by
    refine e4.cell ?_ (by simp;omega)
    rw[hown.cellAt q (by omega)]
    simp[ivals,hp]
   have hbw:=HWW.out.row.gl
   obtain⟨cs3,hb3,_⟩:=HWW.out.rcd
   have hbl:=hb3.lt
   have HWr:HW S wr:=(HW1.out.fr hf1 (by simp) (by simp)).fr e4 (by simp;omega) (by simp;omega)
   obtain⟨cs4,hb4,hc4⟩:=HWr.rcd
   obtain⟨xc,xz,xset,xb⟩:=hb4.rules
   have xc0:wr.cell? ⟨S.bp,0,none⟩=some (.slice (some ⟨S.g,0,none⟩) S.R.length S.c):=(xc 0).trans hc4
   have hbcr:Blk wr w.heap.size #[.pointer (some ⟨S.bp,0,none⟩)] 45:=(hbc.fr hf1 (by simp)).fr e4 (by simp)
   have hpn:S.R[p]? = some { t.n with kids:=(t.ks.length:Int) }:=by
    obtain⟨tn,tk⟩:=t
    exact(row_tail hTp).2
   have hpl:(p:Int)<S.R.length:=by have:=(List.getElem?_eq_some_iff.1 hpn).1;omega
   have hpk:wr.cell? ⟨S.g,p*6,none⟩=some (.int .i64 t.n.kind):=HWr.row.cells p _ hpn 0 (by omega)
   have hts:=sizes_at ht
   have htA:t.all Three:=alls_mem hA.2 t (List.mem_of_getElem? ht)
   have hszT:(Tree.mk n ks).size=sizes ks+1:=by simp[Tree.size]
   have hup:=up_any ih t rest' p h m (w.heap.size+1) w.heap.size wr (by omega) hTp htA (by omega) (by omega) HWr e3 hbcr
   have hle:=height_le t h
   have hB:max m (heightS (ks.drop q) h)=max (max m (t.height h)) (heightS (ks.drop (q+1)) h):=by rw[hsplit];simp only[heightS];omega
   rw[hB]at e1
   have E1:=Lib.hid e1
   have hbpn:S.bp∉[w.heap.size+1]:=by simp;omega
   have hgn:S.g∉[w.heap.size+1]:=by simp;omega
   have hbcn:w.heap.size∉[w.heap.size+1]:=by simp
   clear hsplit hp hTp hrow hb3 hb4 htA e1 hB
   go_wp2_with (first|(go_at_call 64;refine hup.mono ?_;rintro e w5 ⟨rfl,hb5,hf5⟩;have hc5:=hbcr.fr hf5 hbcn;obtain⟨yc,yz,yset,yb⟩:=hc5.rules;have hpk5:w5.cell? ⟨S.g,p*6,none⟩=some (.int .i64 t.n.kind):=hf5.cell hpk hgn;have xc5:w5.cell? ⟨S.bp,0,none⟩=some (.slice (some ⟨S.g,0,none⟩) S.R.length S.c):=hf5.cell xc0 hbpn))
   go_roundw
   case rel=>exact⟨q+1,by go_num,by omega,max m (t.height h),E1.out,by omega,hb5,e4.trans hf5,e5.trans hf5⟩
   case measure=>simp[intOf];omega
  ·obtain rfl:q=ks.length:=by omega
   obtain⟨kc,kz,kset,kb⟩:=e3.rules
   rw[List.drop_length]at e1
   have e1':m=(Tree.mk n ks).height h:=by
    unfold Tree.height
    simp[heightS,h5,h11,h21,h24,h23,h8,h18,h19,h20,h22,h25,h26,h27,h28,h29,h30,h31,h32]at e1 ⊢
    try (split<;>omega)
    try omega
   have E1:=Lib.hid e1'
   clear e1 e1'
   go_wp2
   go_ret
   exact⟨by rw[←E1.out];first|rfl|(show Ending.returned (Value.int .i64 (max (m:Int) ((h:Int)+1)))=_;congr 2;omega),((HF1.out.trans hf1).then e4 (fun x hx=>.inr (by have:=List.mem_singleton.1 hx;omega)))⟩
end
theorem heightF_three:∀(ks:List Tree) (a b c:Tree) (h:Nat),3≤ks.length→ks[ks.length-3]? = some a→ks[ks.length-2]? = some b→ks[ks.length-1]? = some c→heightF ks h=max (a.height h) (max (b.height (h+1)) (c.height (h+3)))
 | [],_,_,_,_,h,_,_,_=>by simp at h
 | [_],_,_,_,_,h,_,_,_=>by simp at h
 | [_,_],_,_,_,_,h,_,_,_=>by simp at h
 | [x,y,z],a,b,c,h,_,h1,h2,h3=>by
  simp at h1 h2 h3
  subst h1 h2 h3
  simp[heightF]
 | x::y::z::u::l,a,b,c,h,_,h1,h2,h3=>by
  have g1:(y::z::u::l)[(y::z::u::l).length-3]? = some a:=by
   have e:(x::y::z::u::l).length-3=((y::z::u::l).length-3)+1:=by simp
   rw[e,List.getElem?_cons_succ]at h1;exact h1
  have g2:(y::z::u::l)[(y::z::u::l).length-2]? = some b:=by
   have e:(x::y::z::u::l).length-2=((y::z::u::l).length-2)+1:=by simp
   rw[e,List.getElem?_cons_succ]at h2;exact h2
  have g3:(y::z::u::l)[(y::z::u::l).length-1]? = some c:=by
   have e:(x::y::z::u::l).length-1=((y::z::u::l).length-1)+1:=by simp
   rw[e,List.getElem?_cons_succ]at h3;exact h3
  have:=heightF_three (y::z::u::l) a b c h (by simp) g1 g2 g3
  rw[←this];simp only[heightF]
section
variable {S:CSt} {N:Nat}
theorem heightK11_any (ih:HAny S N) (n:Ck.Node) (ks:List Tree) (rest:List Ck.Node) (i h:Nat) (w:World) (hs:(Tree.mk n ks).size≤N+1) (hT:S.R.drop i=(Tree.mk n ks).row++rest) (hA:(Tree.mk n ks).all Three) (hh:h+5*(Tree.mk n ks).size≤1000000000000000) (hlim:S.R.length≤1099511627776) (hw:HW S w) (h5:(n.kind==5)=false) (h11:(n.kind==11)=true) :
  Calls Tryz.prog 32 #[.pointer (some ⟨S.bp,0,none⟩),.int .i64 i,.int .i64 h] w fun e w'=>e=.returned (.int .i64 ((Tree.mk n ks).height h:Nat))∧Fr [] w w':=by
 obtain⟨cs,hb,hcs⟩:=hw.rcd
 obtain⟨hrow,hnode⟩:=row_tail hT
 have hil:(i:Int)<S.R.length:=by have:=(List.getElem?_eq_some_iff.1 hnode).1;omega
 have hW1:HW S ((w.alloc (.cells #[.pointer (some ⟨S.bp,0,none⟩)] 45)).alloc (.cells #[.int .i64 h] 3)):=hw.fr (((Fr.refl [] _).alloc _).alloc _) (by simp) (by simp)
 obtain⟨cs1,hb1,hcs1⟩:=hW1.rcd
 have hk:=kids_any S.bp S.R rest i S.g S.c n ks hT hlim _ hW1.row cs1 hb1 hcs1
 have hbc:=(Blk.new w #[.pointer (some ⟨S.bp,0,none⟩)] 45).alloc (.cells #[.int .i64 h] 3)
 have hbm:=Blk.new (w.alloc (.cells #[.pointer (some ⟨S.bp,0,none⟩)] 45)) #[.int .i64 h] 3
 simp only[World.size_alloc]at hbm
 have HK:=Lib.hid hnode;have HT:=Lib.hid hT;have HWW:=Lib.hid hw;have HL:=Lib.hid hlim
 have HF1:=Lib.hid (((Fr.refl [] w).alloc (.cells #[.pointer (some ⟨S.bp,0,none⟩)] 45)).alloc (.cells #[.int .i64 h] 3))
 have HW1:=Lib.hid hW1
 clear hnode hT hw hb hcs hb1 hcs1 hlim
 clear hW1
 go_enter Tryz.func32,Tryz.ntmps32
 have hk3:3≤ks.length:=hA.1.1 (by simpa using h11)
 obtain⟨k,hkk⟩:∃k,ks.length=k+3:=⟨ks.length-3,by omega⟩
 have hkl:ks.length≤sizes ks:=by rw[←rows_sizes];exact rowsGe ks
 have hszT:(Tree.mk n ks).size=sizes ks+1:=by simp[Tree.size]
 have hkb:(k:Int)≤1000000000000000:=by omega
 obtain⟨ta,hta⟩:∃t,ks[k]? = some t:=⟨_,List.getElem?_eq_getElem (by omega)⟩
 obtain⟨tb,htb⟩:∃t,ks[k+1]? = some t:=⟨_,List.getElem?_eq_getElem (by omega)⟩
 obtain⟨tc,htc⟩:∃t,ks[k+2]? = some t:=⟨_,List.getElem?_eq_getElem (by omega)⟩
 have hgoal:(Tree.mk n ks).height h=max (h+3) (max (ta.height h) (max (tb.height (h+1)) (tc.height (h+3)))):=by
  have e0:(Tree.mk n ks).height h=max (h+3) (heightF ks h):=by
   unfold Tree.height
   rw[h5,h11];simp
  rw[e0,heightF_three ks ta tb tc h hk3 (by rw[hkk];exact hta) (by rw[hkk];exact htb) (by rw[hkk];exact htc)]
 obtain⟨pa,ra,hpa,hTa⟩:=kid_at hrow hta
 obtain⟨pb,rb2,hpb,hTb⟩:=kid_at hrow htb
 obtain⟨pc,rc2,hpc,hTc⟩:=kid_at hrow htc
 have sa2:=sizes_at hta;have sb2:=sizes_at htb;have sc2:=sizes_at htc
 have Aa:ta.all Three:=alls_mem hA.2 ta (List.mem_of_getElem? hta)
 have Ab:tb.all Three:=alls_mem hA.2 tb (List.mem_of_getElem? htb)
 have Ac:tc.all Three:=alls_mem hA.2 tc (List.mem_of_getElem? htc)
 have La:=height_le ta h;have Lb:=height_le tb (h+1);have Lc:=height_le tc (h+3)
 have HP:=Lib.hid (And.intro hpa (And.intro hpb hpc));have HT3:=Lib.hid (And.intro hTa (And.intro hTb hTc));have HA3:=Lib.hid (And.intro Aa (And.intro Ab Ac));have HG:=Lib.hid hgoal
 clear hpa hpb hpc hTa hTb hTc Aa Ab Ac hgoal hta htb htc hrow hA
 go_wp2_with (fail)
 go_at_call 31
 refine hk.mono ?_
 rintro e w1 ⟨v,rfl,hown,hf1⟩
 rw[hkk]at hown
 obtain⟨g',scap,hv,hgb,hgl⟩:=hown.form (by omega)
 obtain rfl:=hv
 obtain⟨hc1,hc2⟩:=ownsRow_cap hown
 have ca:w1.cell? ⟨g',k,none⟩=some (.int .i64 (pa:Int)):=by(rw[hown.cellAt k (by omega)];simp[ivals,HP.out.1])
 have cb3:w1.cell? ⟨g',k+1,none⟩=some (.int .i64 (pb:Int)):=by(rw[hown.cellAt (k+1) (by omega)];simp[ivals,HP.out.2.1])
 have cc3:w1.cell? ⟨g',k+2,none⟩=some (.int .i64 (pc:Int)):=by(rw[hown.cellAt (k+2) (by omega)];simp[ivals,HP.out.2.2])
 obtain⟨mc,mz,mset,mb⟩:=(hbm.fr hf1 (by simp)).rules
 obtain⟨cc,cz,cset,cb⟩:=(hbc.fr hf1 (by simp)).rules
 obtain⟨cs2,b2,d2⟩:=(HW1.out.fr hf1 (by simp) (by simp)).rcd
 obtain⟨rc,rz,rset,rb⟩:=b2.rules
 have rc0:w1.cell? ⟨S.bp,0,none⟩=some (.slice (some ⟨S.g,0,none⟩) S.R.length S.c):=(rc 0).trans d2
 have nrow:=(HW1.out.fr hf1 (by simp) (by simp)).row.cells i _ HK.out
 have n0:w1.cell? ⟨S.g,i*6,none⟩=some (.int .i64 n.kind):=nrow 0 (by omega)
 have n1:w1.cell? ⟨S.g,i*6+1,none⟩=some (.int .i64 n.at'):=nrow 1 (by omega)
 have n2:w1.cell? ⟨S.g,i*6+2,none⟩=some (.int .i64 (ks.length:Int)):=nrow 2 (by omega)
 have n3:w1.cell? ⟨S.g,i*6+3,none⟩=some (.string ⟨n.text.toArray⟩):=nrow 3 (by omega)
 have n4:w1.cell? ⟨S.g,i*6+4,none⟩=some (.int .i64 n.int):=nrow 4 (by omega)
 have n5:w1.cell? ⟨S.g,i*6+5,none⟩=some (.int .u64 n.bits):=nrow 5 (by omega)
 clear rc nrow
 go_wp2_with (fail)
 have hsz2:=hf1.size
 simp at hsz2 hgb
 have W0:HW S (w1.alloc (.cells #[.int .i64 n.kind,.int .i64 n.at',.int .i64 ((k:Int)+3),.string ⟨n.text.toArray⟩,.int .i64 n.int,.int .u64 n.bits] 40)):=(HW1.out.fr hf1 (by simp) (by simp)).fr ((Fr.refl [] _).alloc _) (by simp) (by simp)
 have hbw:=HWW.out.row.gl
 obtain⟨cs3,hb3,_⟩:=HWW.out.rcd
 have hbl:=hb3.lt
 have nb1:S.bp∉[w.heap.size+1]:=by simp;omega
 have nb2:S.g∉[w.heap.size+1]:=by simp;omega
 have nb3:w.heap.size∉[w.heap.size+1]:=by simp
 have nb4:g'∉[w.heap.size+1]:=by simp;omega
 have B0:Blk (w1.alloc (.cells #[.int .i64 n.kind,.int .i64 n.at',.int .i64 ((k:Int)+3),.string ⟨n.text.toArray⟩,.int .i64 n.int,.int .u64 n.bits] 40)) (w.heap.size+1) #[.int .i64 (h:Int)] 3:=(hbm.fr hf1 (by simp)).alloc _
 have C0:=(hbc.fr hf1 (by simp)).alloc (.cells #[.int .i64 n.kind,.int .i64 n.at',.int .i64 ((k:Int)+3),.string ⟨n.text.toArray⟩,.int .i64 n.int,.int .u64 n.bits] 40)
 have f0:Fr [w.heap.size+1] w1 (w1.alloc (.cells #[.int .i64 n.kind,.int .i64 n.at',.int .i64 ((k:Int)+3),.string ⟨n.text.toArray⟩,.int .i64 n.int,.int .u64 n.bits] 40)):=(Fr.refl _ _).alloc _
 clear rc0 n0 n1 n2 n3 n4 n5
 go_at_call 64
 refine(up_any ih ta _ pa h h (w.heap.size+1) w.heap.size _ (by omega) HT3.out.1 HA3.out.1 (by omega) (by omega) W0 B0 C0).mono ?_
 rintro e v1 ⟨rfl,B1,g1⟩
 have W1:=W0.fr g1 nb1 nb2
 have C1:=C0.fr g1 nb3
 have f1:=f0.trans g1
 have cb4:=f1.cell cb3 nb4
 have cc4:=f1.cell cc3 nb4
 go_wp2_with (fail)
 go_at_call 64
 refine(up_any ih tb _ pb (h+1) _ (w.heap.size+1) w.heap.size _ (by omega) HT3.out.2.1 HA3.out.2.1 (by omega) (by omega) W1 B1 C1).mono ?_
 rintro e v2 ⟨rfl,B2,g2⟩
 have W2:=W1.fr g2 nb1 nb2
 have C2:=C1.fr g2 nb3
 have f2:=f1.trans g2
 have cc5:=f2.cell cc3 nb4
 go_wp2_with (fail)
 go_at_call 64
 refine(up_any ih tc _ pc (h+3) _ (w.heap.size+1) w.heap.size _ (by omega) HT3.out.2.2 HA3.out.2.2 (by omega) (by omega) W2 B2 C2).mono ?_
 rintro e v3 ⟨rfl,B3,g3⟩
 have f3:=f2.trans g3
 have hfin:max (h+3) (max (ta.height h) (max (tb.height (h+1)) (tc.height (h+3))))=max (max (max (max h (ta.height h)) (tb.height (h+1))) (tc.height (h+3))) (h+3):=by omega
 have HG2:=HG.out.trans hfin
 generalize max (max (max h (ta.height h)) (tb.height (h+1))) (tc.height (h+3))=mm at B3 HG2
 obtain⟨zc,zz,zset,zb⟩:=B3.rules
 go_wp2
 go_ret
 exact⟨by rw[HG2];first|rfl|(show Ending.returned (Value.int .i64 (max (mm:Int) ((h:Int)+3)))=_;congr 2;omega),((HF1.out.trans hf1).then f3 (fun x hx=>.inr (by have:=List.mem_singleton.1 hx;omega))).blk (.inr (by omega)) _ _⟩
end
theorem height_all (S:CSt) (hlim:S.R.length≤1099511627776):∀N,HAny S N:=by
 intro N
 induction N with
 | zero =>
  intro T rest i h w hs
  have:=size_pos T
  omega
 | succ N ih =>
  intro T rest i h w hs hT hA hh hw
  obtain⟨n,ks⟩:=T
  cases h5:(n.kind==5) with
  | true=>exact heightB_any ih n ks rest i h w hs hT hA hh hlim hw h5
  | false =>
   cases h11:(n.kind==11) with
   | true=>exact heightK11_any ih n ks rest i h w hs hT hA hh hlim hw h5 h11
   | false =>
    by_cases c1:n.kind=21∨n.kind=24∨n.kind=23
    ·exact heightKC_any ih n ks rest i h w hs hT hA hh hlim hw c1
    by_cases c2:n.kind=8
    ·exact heightK8_any ih n ks rest i h w hs hT hA hh hlim hw c2
    by_cases c3:n.kind=18∨n.kind=19∨n.kind=20∨n.kind=22∨n.kind=25∨n.kind=26∨n.kind=27∨n.kind=28∨n.kind=29∨n.kind=30∨n.kind=31
    ·exact heightKS_any ih n ks rest i h w hs hT hA hh hlim hw c3
    simp only[not_or]at c1 c3
    exact heightS0_any ih n ks rest i h w hs hT hA hh hlim hw h5 h11 (beq_false_of_ne c1.1) (beq_false_of_ne c1.2.1) (beq_false_of_ne c1.2.2) (beq_false_of_ne c2) (beq_false_of_ne c3.1) (beq_false_of_ne c3.2.1) (beq_false_of_ne c3.2.2.1) (beq_false_of_ne c3.2.2.2.1) (beq_false_of_ne c3.2.2.2.2.1) (beq_false_of_ne c3.2.2.2.2.2.1) (beq_false_of_ne c3.2.2.2.2.2.2.1) (beq_false_of_ne c3.2.2.2.2.2.2.2.1) (beq_false_of_ne c3.2.2.2.2.2.2.2.2.1) (beq_false_of_ne c3.2.2.2.2.2.2.2.2.2.1) (beq_false_of_ne c3.2.2.2.2.2.2.2.2.2.2) hA.1.2
theorem registers_any (S:CSt) (hlim:S.R.length≤1099511627776) (n:Ck.Node) (ks:List Tree) (rest:List Ck.Node) (i:Nat) (w:World) (hT:S.R.drop i=(Tree.mk n ks).row++rest) (hA:(Tree.mk n ks).all Three) (hk:ks≠[]) (hh:6*(Tree.mk n ks).size≤1000000000000000) (hw:HW S w) :
  Calls Tryz.prog 19 #[.pointer (some ⟨S.bp,0,none⟩),.int .i64 i] w fun e w'=>e=.returned (.int .i64 (registers (Tree.mk n ks):Nat))∧Fr [] w w':=by
 obtain⟨k,hkk⟩:∃k,ks.length=k+1:=⟨ks.length-1,by have:=List.length_pos_iff.2 hk;omega⟩
 obtain⟨t,ht⟩:∃t,ks[k]? = some t:=⟨_,List.getElem?_eq_getElem (by omega)⟩
 have hgoal:registers (Tree.mk n ks)=max k (t.height k):=by
  unfold registers
  simp only[Tree.ks]
  rw[List.getLast?_eq_getElem?,hkk]
  simp[ht]
 obtain⟨cs,hb,hcs⟩:=hw.rcd
 obtain⟨hrow,hnode⟩:=row_tail hT
 obtain⟨p,rest',hp,hTp⟩:=kid_at hrow ht
 have hs:=sizes_at ht
 have hkl:ks.length≤sizes ks:=by rw[←rows_sizes];exact rowsGe ks
 have hszT:(Tree.mk n ks).size=sizes ks+1:=by simp[Tree.size]
 have hkb:(k:Int)≤1000000000000000:=by omega
 have At:t.all Three:=alls_mem hA.2 t (List.mem_of_getElem? ht)
 have hle:=height_le t k
 have hkids:=kids_any S.bp S.R rest i S.g S.c n ks hT hlim w hw.row cs hb hcs
 have HW0:=Lib.hid hw;have HP:=Lib.hid hp;have HT:=Lib.hid hTp;have HA:=Lib.hid At;have HG:=Lib.hid hgoal
 clear hw hp hTp At hgoal hb hcs hT hA hrow hnode ht
 go_enter Tryz.func19,Tryz.ntmps19
 go_wp2_with (fail)
 go_at_call 31
 refine hkids.mono ?_
 rintro e w1 ⟨v,rfl,hown,hf1⟩
 rw[hkk]at hown
 obtain⟨g',scap,hv,hgb,hgl⟩:=hown.form (by omega)
 obtain rfl:=hv
 have ca:w1.cell? ⟨g',k,none⟩=some (.int .i64 (p:Int)):=by
  rw[hown.cellAt k (by omega)];simp[ivals,HP.out]
 go_wp2_with (fail)
 go_at_call 32
 refine(height_all S hlim t.size t rest' p k w1 (Nat.le_refl _) HT.out HA.out (by omega) (HW0.out.fr hf1 (by simp) (by simp))).mono ?_
 rintro e w2 ⟨rfl,hf2⟩
 have hG:=HG.out
 generalize t.height k=q at *
 go_wp2
 go_ret
 exact⟨by rw[hG];first|rfl|(show Ending.returned (Value.int .i64 (max (k:Int) (q:Int)))=_;congr 2;omega),hf1.trans hf2⟩
end Go.Proofs.YtoomapkcoibmhaaGreatDoor
end
