/- A part of the proof. -/
import Derived.KernelRfl
import Derived.Test.YtoomapkcoibmhaaGreatDoorQ3
set_option maxRecDepth 100000
set_option maxHeartbeats 12800000
set_option linter.all false
section
namespace Ck
def loadT (ts:List Tok) (e:Flt) (k:Nat):List Node × Flt :=
 match pProgram e k (annot ts 0) with
 | some (.ok (T,_))=>if (checkTree T false).code==0 then(T.row,checkTree T false) else([],checkTree T false)
 | some (.error f)=>if f.code==0 then([],⟨72,0⟩) else([],f)
 | none=>([],⟨0,0⟩)
theorem loadM_eq (s:Bytes):loadM s=loadT (lexAll s).1 (lexAll s).2 (fuel s):=rfl
inductive Pc|fn|if_|let_|out|self|end_
def Pc.b:Pc→Bytes
 | .fn=>[102,110,32,102,40,41,32,123,32]
 | .if_=>[105,102,32,116,114,117,101,32,123,32]
 | .let_=>[108,101,116,32,97,32,61,32,49,59,32]
 | .out=>[111,117,116,32,97,59,32]
 | .self=>[108,101,116,32,97,32,61,32,97,59,32]
 | .end_=>[125,32]
def Pc.t:Pc→Nat→List Tok
 | .fn,a=>[⟨2,a,[102,110],0,0⟩,⟨1,(a+3:Nat),[102],0,0⟩,⟨3,(a+4:Nat),[40],0,0⟩,⟨3,(a+5:Nat),[41],0,0⟩,⟨3,(a+7:Nat),[123],0,0⟩]
 | .if_,a=>[⟨2,a,[105,102],0,0⟩,⟨2,(a+3:Nat),[116,114,117,101],0,0⟩,⟨3,(a+8:Nat),[123],0,0⟩]
 | .let_,a=>[⟨2,a,[108,101,116],0,0⟩,⟨1,(a+4:Nat),[97],0,0⟩,⟨3,(a+6:Nat),[61],0,0⟩,⟨4,(a+8:Nat),[],1,0⟩,⟨3,(a+9:Nat),[59],0,0⟩]
 | .out,a=>[⟨2,a,[111,117,116],0,0⟩,⟨1,(a+4:Nat),[97],0,0⟩,⟨3,(a+5:Nat),[59],0,0⟩]
 | .self,a=>[⟨2,a,[108,101,116],0,0⟩,⟨1,(a+4:Nat),[97],0,0⟩,⟨3,(a+6:Nat),[61],0,0⟩,⟨1,(a+8:Nat),[97],0,0⟩,⟨3,(a+9:Nat),[59],0,0⟩]
 | .end_,a=>[⟨3,a,[125],0,0⟩]
def Pc.k:Pc→Nat
 | .fn=>8
 | .if_=>6
 | .let_=>9
 | .out=>5
 | .self=>9
 | .end_=>2
theorem pc_lex (p:Pc) (f:Nat) (q:Bytes) (a:Nat):lexFrom (f+p.k) (p.b++q) a=(p.t a++(lexFrom f q (a+p.b.length)).1,(lexFrom f q (a+p.b.length)).2):=by
 cases p
 ·kernel_rfl
 ·kernel_rfl
 ·kernel_rfl
 ·kernel_rfl
 ·kernel_rfl
 ·kernel_rfl
def textOf (ps:List Pc):Bytes:=ps.flatMap Pc.b
def toksOf:List Pc→Nat→List Tok
 | [],a=>[⟨3,a,[125],0,0⟩,⟨7,(a+1:Nat),[],0,0⟩]
 | p::l,a=>p.t a++toksOf l (a+p.b.length)
def ksum:List Pc→Nat
 | []=>0
 | p::l=>ksum l+p.k
theorem toks_lex:∀(ps:List Pc) (f a:Nat),lexFrom (f+2+ksum ps) (textOf ps++[125]) a=(toksOf ps a,⟨0,0⟩)
 | [],f,a=>by kernel_rfl
 | p::l,f,a=>by
  have h:=pc_lex p (f+2+ksum l) (textOf l++[125]) a
  rw[toks_lex l f]at h
  have e:textOf (p::l)++[125]=p.b++(textOf l++[125]):=by simp[textOf]
  rw[e,ksum,←Nat.add_assoc,h]
  rfl
theorem ksum_le:∀ps:List Pc,ksum ps≤(textOf ps).length
 | []=>Nat.le_refl _
 | p::l=>by
  have h:=ksum_le l
  have h2:p.k≤p.b.length:=by cases p<;>decide
  have e:textOf (p::l)=p.b++textOf l:=by simp[textOf]
  rw[e,List.length_append,ksum];omega
theorem pc_len (p:Pc):p.b.length≤11:=by cases p<;>decide
theorem textOf_len:∀ps:List Pc,(textOf ps).length≤11*ps.length
 | []=>Nat.le_refl _
 | p::l=>by
  have h:=textOf_len l
  have h2:=pc_len p
  have e:textOf (p::l)=p.b++textOf l:=by simp[textOf]
  rw[e,List.length_append,List.length_cons];omega
theorem lexAll_text (ps:List Pc) (h:ps.length≤1000):lexAll (textOf ps++[125])=(toksOf ps 0,⟨0,0⟩):=by
 have h1:=textOf_len ps
 have h2:=ksum_le ps
 have h3:=toks_lex ps ((textOf ps).length-ksum ps) 0
 have h4:(textOf ps++[125]).length=(textOf ps).length+1:=by simp
 unfold lexAll
 rw[if_neg (by omega),h4]
 rw[show(textOf ps).length+1+1=(textOf ps).length-ksum ps+2+ksum ps by omega]
 exact h3
def codeT (ps:List Pc):Int:=(loadT (toksOf ps 0) ⟨0,0⟩ ((toksOf ps 0).length*32+1)).2.code
theorem codeT_eq (ps:List Pc) (h:ps.length≤1000):(loadM (textOf ps++[125])).2.code=codeT ps:=by
 rw[loadM_eq]
 unfold fuel codeT
 rw[lexAll_text ps h]
def preT (deep at_:Nat):List Pc:=.fn::(List.replicate at_ .if_++.let_::List.replicate (deep-at_) .if_)
def scOk (deep at_:Nat):Bool :=
 codeT (preT deep at_++.out::List.replicate deep .end_)==0 &&
 (let c:=codeT (preT deep at_++.self::List.replicate deep .end_);((c==80)==(at_==deep))&&(c==0 || !decide (at_<deep))) &&
 (deep==0||at_==0||codeT (preT deep at_++(List.replicate (deep-at_+1) .end_++.out::List.replicate (at_-1) .end_))==63)
def scSix (deep j:Nat):Bool:=(List.range 6).all fun k=>decide (deep<6*j+k)||scOk deep (6*j+k)
end Ck
end
