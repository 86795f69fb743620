/- A part of the proof. -/
import Derived.KernelRfl
import Derived.Test.YtoomapkcoibmhaaGreatDoorQ3
set_option maxRecDepth 100000
set_option maxHeartbeats 12800000
set_option linter.all false
section
namespace Ck
def loadT (ts:List Tok) (e:dS) (k:Nat):List Node × dS :=
 match fU e k (iM ts 0) with
 | some (.ok (T,_))=>if (bC T false).code==0 then(T.row,bC T false) else([],bC T false)
 | some (.error f)=>if f.code==0 then([],⟨72,0⟩) else([],f)
 | none=>([],⟨0,0⟩)
theorem QT (s:Bytes):kU s=loadT (aM s).1 (aM s).2 (fuel s):=rfl
inductive Pc|fn|if_|K5|out|self|end_
def Pc.b:Pc→Bytes
 | .fn=>[102,110,32,102,40,41,32,123,32]
 | .if_=>[105,102,32,116,114,117,101,32,123,32]
 | .K5=>[108,101,116,32,97,32,61,32,49,59,32]
 | .out=>[111,117,116,32,97,59,32]
 | .self=>[108,101,116,32,97,32,61,32,97,59,32]
 | .end_=>[125,32]
def Pc.t:Pc→Nat→List Tok
 | .fn,a=>[⟨2,a,[102,110],0,0⟩,⟨1,(a+3:Nat),[102],0,0⟩,⟨3,(a+4:Nat),[40],0,0⟩,⟨3,(a+5:Nat),[41],0,0⟩,⟨3,(a+7:Nat),[123],0,0⟩]
 | .if_,a=>[⟨2,a,[105,102],0,0⟩,⟨2,(a+3:Nat),[116,114,117,101],0,0⟩,⟨3,(a+8:Nat),[123],0,0⟩]
 | .K5,a=>[⟨2,a,[108,101,116],0,0⟩,⟨1,(a+4:Nat),[97],0,0⟩,⟨3,(a+6:Nat),[61],0,0⟩,⟨4,(a+8:Nat),[],1,0⟩,⟨3,(a+9:Nat),[59],0,0⟩]
 | .out,a=>[⟨2,a,[111,117,116],0,0⟩,⟨1,(a+4:Nat),[97],0,0⟩,⟨3,(a+5:Nat),[59],0,0⟩]
 | .self,a=>[⟨2,a,[108,101,116],0,0⟩,⟨1,(a+4:Nat),[97],0,0⟩,⟨3,(a+6:Nat),[61],0,0⟩,⟨1,(a+8:Nat),[97],0,0⟩,⟨3,(a+9:Nat),[59],0,0⟩]
 | .end_,a=>[⟨3,a,[125],0,0⟩]
def Pc.k:Pc→Nat
 | .fn=>8
 | .if_=>6
 | .K5=>9
 | .out=>5
 | .self=>9
 | .end_=>2
theorem UJ (p:Pc) (f:Nat) (q:Bytes) (a:Nat):lexFrom (f+p.k) (p.b++q) a=(p.t a++(lexFrom f q (a+p.b.length)).1,(lexFrom f q (a+p.b.length)).2):=by
 cases p
 ·kernel_rfl
 ·kernel_rfl
 ·kernel_rfl
 ·kernel_rfl
 ·kernel_rfl
 ·kernel_rfl
def textOf (ps:List Pc):Bytes:=ps.flatMap Pc.b
def Ca:List Pc→Nat→List Tok
 | [],a=>[⟨3,a,[125],0,0⟩,⟨7,(a+1:Nat),[],0,0⟩]
 | p::l,a=>p.t a++Ca l (a+p.b.length)
def F5:List Pc→Nat
 | []=>0
 | p::l=>F5 l+p.k
theorem IV:∀(ps:List Pc) (f a:Nat),lexFrom (f+2+F5 ps) (textOf ps++[125]) a=(Ca ps a,⟨0,0⟩)
 | [],f,a=>by kernel_rfl
 | p::l,f,a=>by
  have h:=UJ p (f+2+F5 l) (textOf l++[125]) a;rw[IV l f]at h
  have e:textOf (p::l)++[125]=p.b++(textOf l++[125]):=by simp[textOf]
  rw[e,F5,←Nat.add_assoc,h];rfl
theorem Mh:∀ps:List Pc,F5 ps≤(textOf ps).length
 | []=>Nat.le_refl _
 | p::l=>by
  have h:=Mh l;have h2:p.k≤p.b.length:=by cases p<;>decide
  have e:textOf (p::l)=p.b++textOf l:=by simp[textOf]
  rw[e,List.length_append,F5];omega
theorem UK (p:Pc):p.b.length≤11:=by cases p<;>decide
theorem rF:∀ps:List Pc,(textOf ps).length≤11*ps.length
 | []=>Nat.le_refl _
 | p::l=>by
  have h:=rF l;have h2:=UK p;have e:textOf (p::l)=p.b++textOf l:=by simp[textOf]
  rw[e,List.length_append,List.length_cons];omega
theorem IW (ps:List Pc) (h:ps.length≤1000):aM (textOf ps++[125])=(Ca ps 0,⟨0,0⟩):=by
 have h1:=rF ps;have h2:=Mh ps;have h3:=IV ps ((textOf ps).length-F5 ps) 0;have h4:(textOf ps++[125]).length=(textOf ps).length+1:=by simp
 unfold aM;rw[if_neg (by omega),h4];rw[show(textOf ps).length+1+1=(textOf ps).length-F5 ps+2+F5 ps by omega];exact h3
def IX (ps:List Pc):Int:=(loadT (Ca ps 0) ⟨0,0⟩ ((Ca ps 0).length*32+1)).2.code
theorem Cb (ps:List Pc) (h:ps.length≤1000):(kU (textOf ps++[125])).2.code=IX ps:=by
 rw[QT];unfold fuel IX;rw[IW ps h]
def vC (deep at_:Nat):List Pc:=.fn::(List.replicate at_ .if_++.K5::List.replicate (deep-at_) .if_)
def gH (deep at_:Nat):Bool :=
 IX (vC deep at_++.out::List.replicate deep .end_)==0 &&
 (let c:=IX (vC deep at_++.self::List.replicate deep .end_);((c==80)==(at_==deep))&&(c==0 || !decide (at_<deep))) &&
 (deep==0||at_==0||IX (vC deep at_++(List.replicate (deep-at_+1) .end_++.out::List.replicate (at_-1) .end_))==63)
def ay (deep j:Nat):Bool:=(List.range 6).all fun k=>decide (deep<6*j+k)||gH deep (6*j+k)
end Ck
end
