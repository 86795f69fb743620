/- A part of the proof. -/
import Derived.Test.YtoomapkcoibmhaaGreatDoorQ28
set_option maxRecDepth 100000
set_option maxHeartbeats 12800000
set_option linter.all false
section
open Go Go.Proofs Go.RowKit Go.Shelf Go.Maps Ck
namespace Go.Proofs.YtoomapkcoibmhaaGreatDoor
attribute [local go_sem] Oper.semAt_some
theorem jO {R rest:List Ck.Node} {p:Nat} {ks:List Tree} (h:R.drop p=rows ks++rest) {j:Nat} {t:Tree} (ht:ks[j]? = some t):∃q rest',(kpos p ks)[j]? = some q∧R.drop q=t.row++rest':=by
 induction ks generalizing p j with
 | nil=>cases ht
 | cons a ks ih =>
  cases j with
  | zero =>
   obtain rfl:a=t:=by simpa using ht
   exact⟨p,rows ks++rest,rfl,by rw[h];simp[rows]⟩
  | succ j =>
   have h2:R.drop (p+a.row.length)=rows ks++rest:=by
    rw[←List.drop_drop,h];simp[rows,List.drop_left',List.append_assoc]
   obtain⟨q,r,e1,e2⟩:=ih h2 (by simpa using ht)
   exact⟨q,r,by simpa[kpos]using e1,e2⟩
theorem bJ {R rest:List Ck.Node} {i:Nat} {n:Ck.Node} {ks:List Tree} (h:R.drop i=(Tree.mk n ks).row++rest):R.drop (i+1)=rows ks++rest∧R[i]? = some { n with kids:=(ks.length:Int) }:=by
 constructor
 ·have:=congrArg List.tail h
  simpa[Tree.row,List.tail_drop]using this
 ·have:=congrArg (fun l=>l[0]?) h
  simpa[Tree.row]using this
theorem jH {ks:List Tree} {q:Nat} {t:Tree} (h:ks[q]? = some t):q+t.size≤sizes ks:=by
 induction ks generalizing q with
 | nil=>cases h
 | cons a ks ih =>
  cases q with
  | zero =>
   obtain rfl:a=t:=by simpa using h
   simp[sizes]
  | succ q =>
   have:=ih (q:=q) (by simpa using h)
   have:=size_pos a
   simp[sizes];omega
theorem gX {W:World} {base:Nat} {e:TypeId} {size n:Nat} {v:Value} {xs:List Value} (h:W.ownsRow base e size v n xs):∃a c,v=.slice a n c:=by
 rcases h.2 with⟨rfl,h0⟩|⟨g',cap,cur,rfl,_⟩
 ·exact⟨none,0,by rw[h0]⟩
 ·exact⟨_,_,rfl⟩
section
variable {S:lH} {N:Nat}
theorem Hu (ih:Ht S N) (n:Ck.Node) (ks:List Tree) (rest:List Ck.Node) (i h:Nat) (w:World) (hs:(Tree.mk n ks).size≤N+1) (hT:S.R.drop i=(Tree.mk n ks).row++rest) (hA:(Tree.mk n ks).all Three) (hh:h+5*(Tree.mk n ks).size≤1000000000000000) (hlim:S.R.length≤1099511627776) (hw:HW S w) (h5:(n.kind==5)=true) :
  Calls Tryz.prog 32 #[.pointer (some ⟨S.bp,0,none⟩),.int .i64 i,.int .i64 h] w fun e w'=>e=.returned (.int .i64 ((Tree.mk n ks).height h:Nat))∧Fr [] w w':=by
 obtain⟨cs,hb,hcs⟩:=hw.oP
 obtain⟨hrow,aD⟩:=bJ hT
 have hil:(i:Int)<S.R.length:=by have:=(List.getElem?_eq_some_iff.1 aD).1;omega
 have hW1:HW S ((w.alloc (.cells #[.pointer (some ⟨S.bp,0,none⟩)] 45)).alloc (.cells #[.int .i64 h] 3)):=hw.fr (((Fr.refl [] _).alloc _).alloc _) (by simp) (by simp);obtain⟨cs1,hb1,hcs1⟩:=hW1.oP
 have hk:=dM S.bp S.R rest i S.g S.c n ks hT hlim _ hW1.row cs1 hb1 hcs1;have hbc:=(au.new w #[.pointer (some ⟨S.bp,0,none⟩)] 45).alloc (.cells #[.int .i64 h] 3);have Bh:=au.new (w.alloc (.cells #[.pointer (some ⟨S.bp,0,none⟩)] 45)) #[.int .i64 h] 3;simp only[World.size_alloc]at Bh;have HK:=Lib.hid aD;have HT:=Lib.hid hT;have Hw:=Lib.hid hw;have HL:=Lib.hid hlim;have PK:=Lib.hid (((Fr.refl [] w).alloc (.cells #[.pointer (some ⟨S.bp,0,none⟩)] 45)).alloc (.cells #[.int .i64 h] 3));have HW1:=Lib.hid hW1;clear aD hT hw hb hcs hb1 hcs1 hlim;clear hW1;go_enter Tryz.func32,Tryz.ntmps32
 go_wp2_with (first|(go_at_call 31;refine hk.mono ?_;rintro e w1 ⟨v,rfl,hown,hf1⟩;obtain⟨sa,Kk,rfl⟩:=gX hown;obtain⟨mc,mz,zX,mb⟩:=(Bh.fr hf1 (by simp)).rules;obtain⟨cc,cz,PL,cb⟩:=(hbc.fr hf1 (by simp)).rules;obtain⟨cs2,b2,d2⟩:=(HW1.out.fr hf1 (by simp) (by simp)).oP;obtain⟨rc,rz,bE,rb⟩:=b2.rules;have rP:w1.cell? ⟨S.bp,0,none⟩=some (.slice (some ⟨S.g,0,none⟩) S.R.length S.c):=(rc 0).trans d2;have cB:=(HW1.out.fr hf1 (by simp) (by simp)).row.cells i _ HK.out;have n0:w1.cell? ⟨S.g,i*6,none⟩=some (.int .i64 n.kind):=cB 0 (by omega);have n1:w1.cell? ⟨S.g,i*6+1,none⟩=some (.int .i64 n.at'):=cB 1 (by omega);have n2:w1.cell? ⟨S.g,i*6+2,none⟩=some (.int .i64 (ks.length:Int)):=cB 2 (by omega);have n3:w1.cell? ⟨S.g,i*6+3,none⟩=some (.string ⟨n.text.toArray⟩):=cB 3 (by omega);have n4:w1.cell? ⟨S.g,i*6+4,none⟩=some (.int .i64 n.int):=cB 4 (by omega);have n5:w1.cell? ⟨S.g,i*6+5,none⟩=some (.int .u64 n.bits):=cB 5 (by omega);clear rc cB))
 obtain⟨w2,hw2⟩:∃w2,w1.alloc (.cells #[.int .i64 n.kind,.int .i64 n.at',.int .i64 (ks.length:Int),.string ⟨n.text.toArray⟩,.int .i64 n.int,.int .u64 n.bits] 40)=w2:=⟨_,rfl⟩
 rw[hw2];have hf2:Fr [] w1 w2:=by rw[←hw2];exact(Fr.refl _ _).alloc _
 clear hw2;have HM:Hid (∃m,mD (ks.drop 0) h m=(Tree.mk n ks).height h∧m≤h+5*sizes ks∧au w2 (w.heap.size+1) #[.int .i64 m] 3∧Fr [w.heap.size+1] w2 w2):=⟨h,by unfold Tree.height;simp[h5],by omega,(Bh.fr hf1 (by simp)).fr hf2 (by simp),Fr.refl _ _⟩
 go_loopw [2,12,48] (fun h2 _x j wr=>∃(q hh:Nat),j=.int .i64 q∧h2=.int .i64 hh∧q≤ks.length∧hh≤h+q∧Hid (∃m,mD (ks.drop q) hh m=(Tree.mk n ks).height h∧m≤h+5*sizes ks∧au wr (w.heap.size+1) #[.int .i64 m] 3∧Fr [w.heap.size+1] w2 wr)) (fun _ _ j _=>ks.length-(intOf j).toNat)
 case atStart=>exact⟨0,h,rfl,rfl,Nat.zero_le _,Nat.le_refl _,HM.out⟩
 case round =>
  obtain⟨q,hh,rfl,rfl,hq1,hq2,hq⟩:=hrel
  obtain⟨m,e1,e2,e3,e4⟩:=hq.out
  clear hq;by_cases hlt:q<ks.length
  ·obtain⟨t,ht⟩:∃t,ks[q]? = some t:=⟨_,List.getElem?_eq_getElem hlt⟩
   have hsplit:ks.drop q=t::ks.drop (q+1):=by
    rw[List.drop_eq_getElem_cons hlt];rw[List.getElem?_eq_getElem hlt]at ht
    rw[Option.some.inj ht]
   obtain⟨p,rest',hp,wS⟩:=jO hrow ht
   obtain⟨g',cap',hv,hgb,hgl⟩:=hown.form (by omega)
   cases hv;have hsz2:=hf1.size;have aek:=hf2.size;simp at hgb hsz2
   have hcell:wr.cell? ⟨g',q,none⟩=some (.int .i64 (p:Int)):=by
    refine e4.cell (hf2.cell ?_ (by simp)) (by simp;omega);rw[hown.cellAt q (by omega)];simp[gM,hp]
   have hbw:=Hw.out.row.gl;obtain⟨Wu,hb3,_⟩:=Hw.out.oP
   have hbl:=hb3.lt;have FE:HW S wr:=((HW1.out.fr hf1 (by simp) (by simp)).fr hf2 (by simp) (by simp)).fr e4 (by simp;omega) (by simp;omega);obtain⟨cs4,hb4,hc4⟩:=FE.oP
   obtain⟨xc,xz,Nc,xb⟩:=hb4.rules
   have xc0:wr.cell? ⟨S.bp,0,none⟩=some (.slice (some ⟨S.g,0,none⟩) S.R.length S.c):=(xc 0).trans hc4;have uV:au wr w.heap.size #[.pointer (some ⟨S.bp,0,none⟩)] 45:=((hbc.fr hf1 (by simp)).fr hf2 (by simp)).fr e4 (by simp)
   have hpn:S.R[p]? = some { t.n with kids:=(t.ks.length:Int) }:=by
    obtain⟨tn,tk⟩:=t
    exact(bJ wS).2
   have hpl:(p:Int)<S.R.length:=by have:=(List.getElem?_eq_some_iff.1 hpn).1;omega
   have hpk:wr.cell? ⟨S.g,p*6,none⟩=some (.int .i64 t.n.kind):=FE.row.cells p _ hpn 0 (by omega);have hts:=jH ht;have Cx:t.all Three:=dN hA.2 t (List.mem_of_getElem? ht);have o9:(Tree.mk n ks).size=sizes ks+1:=by simp[Tree.size]
   have hup:=sI ih t rest' p hh m (w.heap.size+1) w.heap.size wr (by omega) wS Cx (by omega) (by omega) FE e3 uV;have hle:=fC t hh;have hB:mD (ks.drop q) hh m=mD (ks.drop (q+1)) (if t.n.kind==6 then hh+1 else hh) (max m (t.height hh)):=by rw[hsplit];rfl
   rw[hB]at e1
   have E1:=Lib.hid e1;have Df:S.bp∉[w.heap.size+1]:=by simp;omega
   have hgn:S.g∉[w.heap.size+1]:=by simp;omega
   have Dh:w.heap.size∉[w.heap.size+1]:=by simp
   clear hsplit hp wS hrow hb3 hb4 Cx e1 hB;cases h6:(t.n.kind==6)
   ·go_wp2_with (first|(go_at_call 64;refine hup.mono ?_;rintro e w5 ⟨rfl,hb5,fF⟩;have PN:=uV.fr fF Dh;obtain⟨yc,yz,wm,yb⟩:=PN.rules;have PO:w5.cell? ⟨S.g,p*6,none⟩=some (.int .i64 t.n.kind):=fF.cell hpk hgn;have Wv:w5.cell? ⟨S.bp,0,none⟩=some (.slice (some ⟨S.g,0,none⟩) S.R.length S.c):=fF.cell xc0 Df))
    go_roundw
    case rel =>
     have E2:=E1.out;rw[h6]at E2
     exact⟨q+1,hh,by go_num,rfl,by omega,by omega,max m (t.height hh),E2,by omega,hb5,e4.trans fF⟩
    case measure=>simp[intOf];omega
   ·go_wp2_with (first|(go_at_call 64;refine hup.mono ?_;rintro e w5 ⟨rfl,hb5,fF⟩;have PN:=uV.fr fF Dh;obtain⟨yc,yz,wm,yb⟩:=PN.rules;have PO:w5.cell? ⟨S.g,p*6,none⟩=some (.int .i64 t.n.kind):=fF.cell hpk hgn;have Wv:w5.cell? ⟨S.bp,0,none⟩=some (.slice (some ⟨S.g,0,none⟩) S.R.length S.c):=fF.cell xc0 Df))
    go_roundw
    case rel =>
     have E2:=E1.out;rw[h6]at E2
     exact⟨q+1,hh+1,by go_num,by go_num,by omega,by omega,max m (t.height hh),E2,by omega,hb5,e4.trans fF⟩
    case measure=>simp[intOf];omega
  ·obtain rfl:q=ks.length:=by omega
   obtain⟨kc,kz,aH,kb⟩:=e3.rules
   rw[List.drop_length]at e1
   have LV:m=(Tree.mk n ks).height h:=e1;have E1:=Lib.hid LV;clear e1 LV;go_wp2;go_ret;exact⟨by rw[←E1.out];rfl,((PK.out.trans hf1).trans hf2).then e4 (fun x hx=>.inr (by obtain rfl:x=w.heap.size+1:=(by simpa using hx);omega))⟩
end
theorem um:∀(ks:List Tree) (a b c:Tree) (h:Nat),3≤ks.length→ks[ks.length-3]? = some a→ks[ks.length-2]? = some b→ks[ks.length-1]? = some c→jy ks h=max (a.height h) (max (b.height (h+1)) (c.height (h+3)))
 | [],_,_,_,_,h,_,_,_=>by simp at h
 | [_],_,_,_,_,h,_,_,_=>by simp at h
 | [_,_],_,_,_,_,h,_,_,_=>by simp at h
 | [x,y,z],a,b,c,h,_,h1,h2,h3=>by
  simp at h1 h2 h3;subst h1 h2 h3;simp[jy]
 | x::y::z::u::l,a,b,c,h,_,h1,h2,h3=>by
  have g1:(y::z::u::l)[(y::z::u::l).length-3]? = some a:=by
   have e:(x::y::z::u::l).length-3=((y::z::u::l).length-3)+1:=by simp
   rw[e,List.getElem?_cons_succ]at h1;exact h1
  have g2:(y::z::u::l)[(y::z::u::l).length-2]? = some b:=by
   have e:(x::y::z::u::l).length-2=((y::z::u::l).length-2)+1:=by simp
   rw[e,List.getElem?_cons_succ]at h2;exact h2
  have g3:(y::z::u::l)[(y::z::u::l).length-1]? = some c:=by
   have e:(x::y::z::u::l).length-1=((y::z::u::l).length-1)+1:=by simp
   rw[e,List.getElem?_cons_succ]at h3;exact h3
  have:=um (y::z::u::l) a b c h (by simp) g1 g2 g3
  rw[←this];simp only[jy]
section
variable {S:lH} {N:Nat}
theorem Di (ih:Ht S N) (n:Ck.Node) (ks:List Tree) (rest:List Ck.Node) (i h:Nat) (w:World) (hs:(Tree.mk n ks).size≤N+1) (hT:S.R.drop i=(Tree.mk n ks).row++rest) (hA:(Tree.mk n ks).all Three) (hh:h+5*(Tree.mk n ks).size≤1000000000000000) (hlim:S.R.length≤1099511627776) (hw:HW S w) (h5:(n.kind==5)=false) (h11:(n.kind==11)=true) :
  Calls Tryz.prog 32 #[.pointer (some ⟨S.bp,0,none⟩),.int .i64 i,.int .i64 h] w fun e w'=>e=.returned (.int .i64 ((Tree.mk n ks).height h:Nat))∧Fr [] w w':=by
 obtain⟨cs,hb,hcs⟩:=hw.oP
 obtain⟨hrow,aD⟩:=bJ hT
 have hil:(i:Int)<S.R.length:=by have:=(List.getElem?_eq_some_iff.1 aD).1;omega
 have hW1:HW S ((w.alloc (.cells #[.pointer (some ⟨S.bp,0,none⟩)] 45)).alloc (.cells #[.int .i64 h] 3)):=hw.fr (((Fr.refl [] _).alloc _).alloc _) (by simp) (by simp);obtain⟨cs1,hb1,hcs1⟩:=hW1.oP
 have hk:=dM S.bp S.R rest i S.g S.c n ks hT hlim _ hW1.row cs1 hb1 hcs1;have hbc:=(au.new w #[.pointer (some ⟨S.bp,0,none⟩)] 45).alloc (.cells #[.int .i64 h] 3);have Bh:=au.new (w.alloc (.cells #[.pointer (some ⟨S.bp,0,none⟩)] 45)) #[.int .i64 h] 3;simp only[World.size_alloc]at Bh;have HK:=Lib.hid aD;have HT:=Lib.hid hT;have Hw:=Lib.hid hw;have HL:=Lib.hid hlim;have PK:=Lib.hid (((Fr.refl [] w).alloc (.cells #[.pointer (some ⟨S.bp,0,none⟩)] 45)).alloc (.cells #[.int .i64 h] 3));have HW1:=Lib.hid hW1;clear aD hT hw hb hcs hb1 hcs1 hlim;clear hW1;go_enter Tryz.func32,Tryz.ntmps32;have hk3:3≤ks.length:=hA.1.1 (by simpa using h11);obtain⟨k,hkk⟩:∃k,ks.length=k+3:=⟨ks.length-3,by omega⟩
 have hkl:ks.length≤sizes ks:=by rw[←bP];exact eZ ks
 have o9:(Tree.mk n ks).size=sizes ks+1:=by simp[Tree.size]
 have hkb:(k:Int)≤1000000000000000:=by omega
 obtain⟨ta,WA⟩:∃t,ks[k]? = some t:=⟨_,List.getElem?_eq_getElem (by omega)⟩
 obtain⟨tb,htb⟩:∃t,ks[k+1]? = some t:=⟨_,List.getElem?_eq_getElem (by omega)⟩
 obtain⟨tc,htc⟩:∃t,ks[k+2]? = some t:=⟨_,List.getElem?_eq_getElem (by omega)⟩
 have hgoal:(Tree.mk n ks).height h=max (h+3) (max (ta.height h) (max (tb.height (h+1)) (tc.height (h+3)))):=by
  have e0:(Tree.mk n ks).height h=max (h+3) (jy ks h):=by
   unfold Tree.height;rw[h5,h11];simp
  rw[e0,um ks ta tb tc h hk3 (by rw[hkk];exact WA) (by rw[hkk];exact htb) (by rw[hkk];exact htc)]
 obtain⟨pa,ra,hpa,hTa⟩:=jO hrow WA
 obtain⟨pb,rb2,hpb,hTb⟩:=jO hrow htb
 obtain⟨pc,rc2,hpc,hTc⟩:=jO hrow htc
 have sa2:=jH WA;have sb2:=jH htb;have sc2:=jH htc;have Aa:ta.all Three:=dN hA.2 ta (List.mem_of_getElem? WA);have Ab:tb.all Three:=dN hA.2 tb (List.mem_of_getElem? htb);have Ac:tc.all Three:=dN hA.2 tc (List.mem_of_getElem? htc);have La:=fC ta h;have Lb:=fC tb (h+1);have Lc:=fC tc (h+3);have HP:=Lib.hid (And.intro hpa (And.intro hpb hpc));have HT3:=Lib.hid (And.intro hTa (And.intro hTb hTc));have HA3:=Lib.hid (And.intro Aa (And.intro Ab Ac));have HG:=Lib.hid hgoal;clear hpa hpb hpc hTa hTb hTc Aa Ab Ac hgoal WA htb htc hrow hA
 go_wp2_with (fail)
 go_at_call 31
 refine hk.mono ?_;rintro e w1 ⟨v,rfl,hown,hf1⟩;rw[hkk]at hown
 obtain⟨g',Kk,hv,hgb,hgl⟩:=hown.form (by omega)
 obtain rfl:=hv;obtain⟨hc1,hc2⟩:=bX hown
 have ca:w1.cell? ⟨g',k,none⟩=some (.int .i64 (pa:Int)):=by(rw[hown.cellAt k (by omega)];simp[gM,HP.out.1])
 have cb3:w1.cell? ⟨g',k+1,none⟩=some (.int .i64 (pb:Int)):=by(rw[hown.cellAt (k+1) (by omega)];simp[gM,HP.out.2.1])
 have cc3:w1.cell? ⟨g',k+2,none⟩=some (.int .i64 (pc:Int)):=by(rw[hown.cellAt (k+2) (by omega)];simp[gM,HP.out.2.2])
 obtain⟨mc,mz,zX,mb⟩:=(Bh.fr hf1 (by simp)).rules
 obtain⟨cc,cz,PL,cb⟩:=(hbc.fr hf1 (by simp)).rules
 obtain⟨cs2,b2,d2⟩:=(HW1.out.fr hf1 (by simp) (by simp)).oP
 obtain⟨rc,rz,bE,rb⟩:=b2.rules
 have rP:w1.cell? ⟨S.bp,0,none⟩=some (.slice (some ⟨S.g,0,none⟩) S.R.length S.c):=(rc 0).trans d2;have cB:=(HW1.out.fr hf1 (by simp) (by simp)).row.cells i _ HK.out;have n0:w1.cell? ⟨S.g,i*6,none⟩=some (.int .i64 n.kind):=cB 0 (by omega);have n1:w1.cell? ⟨S.g,i*6+1,none⟩=some (.int .i64 n.at'):=cB 1 (by omega);have n2:w1.cell? ⟨S.g,i*6+2,none⟩=some (.int .i64 (ks.length:Int)):=cB 2 (by omega);have n3:w1.cell? ⟨S.g,i*6+3,none⟩=some (.string ⟨n.text.toArray⟩):=cB 3 (by omega);have n4:w1.cell? ⟨S.g,i*6+4,none⟩=some (.int .i64 n.int):=cB 4 (by omega);have n5:w1.cell? ⟨S.g,i*6+5,none⟩=some (.int .u64 n.bits):=cB 5 (by omega);clear rc cB
 go_wp2_with (fail)
 have hsz2:=hf1.size;simp at hsz2 hgb;have W0:HW S (w1.alloc (.cells #[.int .i64 n.kind,.int .i64 n.at',.int .i64 ((k:Int)+3),.string ⟨n.text.toArray⟩,.int .i64 n.int,.int .u64 n.bits] 40)):=(HW1.out.fr hf1 (by simp) (by simp)).fr ((Fr.refl [] _).alloc _) (by simp) (by simp);have hbw:=Hw.out.row.gl;obtain⟨Wu,hb3,_⟩:=Hw.out.oP
 have hbl:=hb3.lt;have nb1:S.bp∉[w.heap.size+1]:=by simp;omega
 have nb2:S.g∉[w.heap.size+1]:=by simp;omega
 have nb3:w.heap.size∉[w.heap.size+1]:=by simp
 have nb4:g'∉[w.heap.size+1]:=by simp;omega
 have B0:au (w1.alloc (.cells #[.int .i64 n.kind,.int .i64 n.at',.int .i64 ((k:Int)+3),.string ⟨n.text.toArray⟩,.int .i64 n.int,.int .u64 n.bits] 40)) (w.heap.size+1) #[.int .i64 (h:Int)] 3:=(Bh.fr hf1 (by simp)).alloc _;have C0:=(hbc.fr hf1 (by simp)).alloc (.cells #[.int .i64 n.kind,.int .i64 n.at',.int .i64 ((k:Int)+3),.string ⟨n.text.toArray⟩,.int .i64 n.int,.int .u64 n.bits] 40);have f0:Fr [w.heap.size+1] w1 (w1.alloc (.cells #[.int .i64 n.kind,.int .i64 n.at',.int .i64 ((k:Int)+3),.string ⟨n.text.toArray⟩,.int .i64 n.int,.int .u64 n.bits] 40)):=(Fr.refl _ _).alloc _;clear rP n0 n1 n2 n3 n4 n5
 go_at_call 64
 refine(sI ih ta _ pa h h (w.heap.size+1) w.heap.size _ (by omega) HT3.out.1 HA3.out.1 (by omega) (by omega) W0 B0 C0).mono ?_
 rintro e v1 ⟨rfl,B1,g1⟩;have W1:=W0.fr g1 nb1 nb2;have C1:=C0.fr g1 nb3;have f1:=f0.trans g1;have cb4:=f1.cell cb3 nb4;have cc4:=f1.cell cc3 nb4
 go_wp2_with (fail)
 go_at_call 64
 refine(sI ih tb _ pb (h+1) _ (w.heap.size+1) w.heap.size _ (by omega) HT3.out.2.1 HA3.out.2.1 (by omega) (by omega) W1 B1 C1).mono ?_
 rintro e v2 ⟨rfl,B2,g2⟩;have W2:=W1.fr g2 nb1 nb2;have C2:=C1.fr g2 nb3;have f2:=f1.trans g2;have cc5:=f2.cell cc3 nb4
 go_wp2_with (fail)
 go_at_call 64
 refine(sI ih tc _ pc (h+3) _ (w.heap.size+1) w.heap.size _ (by omega) HT3.out.2.2 HA3.out.2.2 (by omega) (by omega) W2 B2 C2).mono ?_
 rintro e v3 ⟨rfl,B3,g3⟩;have f3:=f2.trans g3;have hfin:max (h+3) (max (ta.height h) (max (tb.height (h+1)) (tc.height (h+3))))=max (max (max (max h (ta.height h)) (tb.height (h+1))) (tc.height (h+3))) (h+3):=by omega
 have HG2:=HG.out.trans hfin;generalize max (max (max h (ta.height h)) (tb.height (h+1))) (tc.height (h+3))=mm at B3 HG2;obtain⟨zc,zz,aen,zb⟩:=B3.rules
 go_wp2;go_ret;exact⟨by rw[HG2];first|rfl|(show Ending.returned (Value.int .i64 (max (mm:Int) ((h:Int)+3)))=_;congr 2;omega),((PK.out.trans hf1).then f3 (fun x hx=>.inr (by have:=List.mem_singleton.1 hx;omega))).blk (.inr (by omega)) _ _⟩
end
end Go.Proofs.YtoomapkcoibmhaaGreatDoor
end
