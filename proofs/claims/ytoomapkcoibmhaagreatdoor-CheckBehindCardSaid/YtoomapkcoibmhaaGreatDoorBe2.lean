/- A part of the proof. -/
import Derived.Test.YtoomapkcoibmhaaGreatDoorBe1
set_option maxRecDepth 100000
set_option maxHeartbeats 12800000
set_option linter.all false
section
namespace Ck
def zz:Bytes:=[122,122]
def zy:Bytes:=[122,121]
def zzz:Bytes:=[122,122,122]
def bq:Nat→Bytes
 | 0=>[102,110,32,122,122,122,40,122,122,41,32,123,32,114,101,116,117,114,110,32,122,121,59,32,125]
 | 1=>[102,110,32,122,122,122,40,122,122,44,32,122,122,41,32,123,32,125]
 | 2=>[102,110,32,122,122,122,40,122,122,41,32,123,32,98,114,101,97,107,59,32,125]
 | 3=>[102,110,32,122,122,122,40,122,122,41,32,123,32,122,122,122,40,41,59,32,125]
 | _=>[102,110,32,122,122,122,40,122,122,41,32,123,32,114,101,116,117,114,110,32,122,122,59,32,125]
def bks (a:Nat):Nat→List Tree
 | 0=>[leaf 4 (a+8:Nat) zz [],leaf 5 (a+12:Nat) [] [leaf 15 (a+14:Nat) [] [leaf 25 (a+21:Nat) zy []]]]
 | 1=>[leaf 4 (a+8:Nat) zz [],leaf 4 (a+12:Nat) zz [],leaf 5 (a+16:Nat) [] []]
 | 2=>[leaf 4 (a+8:Nat) zz [],leaf 5 (a+12:Nat) [] [leaf 13 (a+14:Nat) [] []]]
 | 3=>[leaf 4 (a+8:Nat) zz [],leaf 5 (a+12:Nat) [] [leaf 17 (a+14:Nat) [] [leaf 23 (a+14:Nat) zzz []]]]
 | _=>[leaf 4 (a+8:Nat) zz [],leaf 5 (a+12:Nat) [] [leaf 15 (a+14:Nat) [] [leaf 25 (a+21:Nat) zz []]]]
def bT (a i:Nat):Tree:=leaf 3 (a+4:Nat) zzz (bks a i)
def aat (a i:Nat):List Tok:=(lexFrom ((bq i).length+2) (10::bq i) a).1
structure BP (i:Nat):Prop where
 lex:∀a,(lexFrom ((bq i).length+2) (10::bq i) a).2=⟨0,0⟩
 len:∀a,10≤(aat a i).length
 hd:∀a,∃m r,aat a i=m::r∧m.kind=2∧m.text=[102,110]
 par:∀a g e ks,∃r,jT ⟨0,0⟩ (recs ⟨0,0⟩ (g+40)) (g+40) (e+2) ks (iM (aat a i) 0)=some (.ok (ks++[bT a i],r))
 q:(bq i).length≤1000
theorem bp0:BP 0:=⟨fun a=>by kernel_rfl,fun a=>by
 have h:(aat a 0).length=11:=by kernel_rfl
 omega,fun a=>⟨⟨2,(a+1:Nat),[102,110],0,0⟩,(aat a 0).tail,by kernel_rfl,rfl,rfl⟩,fun a g e ks=>⟨[(eof (a+26),0)],by kernel_rfl⟩,by decide⟩
theorem bp1:BP 1:=⟨fun a=>by kernel_rfl,fun a=>by
 have h:(aat a 1).length=10:=by kernel_rfl
 omega,fun a=>⟨⟨2,(a+1:Nat),[102,110],0,0⟩,(aat a 1).tail,by kernel_rfl,rfl,rfl⟩,fun a g e ks=>⟨[(eof (a+19),0)],by kernel_rfl⟩,by decide⟩
theorem bp2:BP 2:=⟨fun a=>by kernel_rfl,fun a=>by
 have h:(aat a 2).length=10:=by kernel_rfl
 omega,fun a=>⟨⟨2,(a+1:Nat),[102,110],0,0⟩,(aat a 2).tail,by kernel_rfl,rfl,rfl⟩,fun a g e ks=>⟨[(eof (a+22),0)],by kernel_rfl⟩,by decide⟩
theorem bp3:BP 3:=⟨fun a=>by kernel_rfl,fun a=>by
 have h:(aat a 3).length=12:=by kernel_rfl
 omega,fun a=>⟨⟨2,(a+1:Nat),[102,110],0,0⟩,(aat a 3).tail,by kernel_rfl,rfl,rfl⟩,fun a g e ks=>⟨[(eof (a+22),0)],by kernel_rfl⟩,by decide⟩
theorem bp4:BP 4:=⟨fun a=>by kernel_rfl,fun a=>by
 have h:(aat a 4).length=11:=by kernel_rfl
 omega,fun a=>⟨⟨2,(a+1:Nat),[102,110],0,0⟩,(aat a 4).tail,by kernel_rfl,rfl,rfl⟩,fun a g e ks=>⟨[(eof (a+26),0)],by kernel_rfl⟩,by decide⟩
theorem aaQ {i:Nat} (b:BP i) (s:Bytes) (T:Tree) (ts':TS) (hs:s.length≤60000) (hp:fU (aM s).2 (fuel s) (iM (aM s).1 0)=some (.ok (T,ts'))) :
  ∃ks,T=leaf 1 0 [] ks∧kU (s++10::bq i)=if (bC (leaf 1 0 [] (ks++[bT s.length i])) false).code==0 then((leaf 1 0 [] (ks++[bT s.length i])).row,bC (leaf 1 0 [] (ks++[bT s.length i])) false) else([],bC (leaf 1 0 [] (ks++[bT s.length i])) false):=by
 obtain⟨L,ks,hT,hlex,hprog,hc,hf⟩:=ac3 s T ts' hs hp
 refine⟨ks,hT,?_⟩;have hl:=hlex (bq i) b.q;rw[b.lex s.length]at hl
 have hl:aM (s++10::bq i)=(L++aat s.length i,⟨0,0⟩):=hl;obtain⟨m,r,hm,hmk,hmx⟩:=b.hd s.length
 have hlen:=b.len s.length;have hfuel:fuel (s++10::bq i)=(L.length+(aat s.length i).length)*32+1:=by unfold fuel;rw[hl,List.length_append]
 have afY:iM (L++aat s.length i) 0=iM L 0++(m,0)::iM r 0:=by
  rw[aav,hc,hm];show iM L 0++(m,0)::iM r _=_;rw[show opens m=false by unfold opens;rw[hmk];rfl,show closes m=false by unfold closes;rw[hmk];rfl];rfl
 have S:aeE (eof s.length,0) (m,0):=⟨rfl,hmk,hmx⟩
 obtain⟨e,he,agm⟩:=abR S (adr (F:=⟨0,0⟩) (B':=iM r 0) S (fuel s) (fuel (s++10::bq i)) (by omega)) (q:=fuel s) (q':=fuel (s++10::bq i)) (by omega) (fuel s) [] (iM L 0) ks hprog (fuel (s++10::bq i)-fuel s)
 rw[show fuel s+(fuel (s++10::bq i)-fuel s)=fuel (s++10::bq i)by omega]at agm
 have hb:(m,(0:Int))::iM r 0=iM (aat s.length i) 0:=by
  rw[hm];show _=(m,(0:Int))::iM r _;rw[show opens m=false by unfold opens;rw[hmk];rfl,show closes m=false by unfold closes;rw[hmk];rfl];rfl
 obtain⟨r',hpar⟩:=b.par s.length (fuel (s++10::bq i)-40) (e-2) ks
 rw[show fuel (s++10::bq i)-40+40=fuel (s++10::bq i)by omega,show e-2+2=e by omega,←hb]at hpar
 unfold kU fU;rw[bind_eq,P.bind,hl,afY,agm,hpar];rfl
theorem ob {α β:Type} (a:α) (f:α→Except dS β):((Except.ok a:Except dS α) >>= f)=f a:=rfl
theorem pb {α β:Type} (a:α) (f:α→Except dS β):((pure a:Except dS α) >>= f)=f a:=rfl
theorem eb {α β:Type} (e:dS) (f:α→Except dS β):((Except.error e:Except dS α) >>= f)=.error e:=rfl
theorem aaI {c a:Int}:need false c a=.ok ():=rfl
theorem ady {c a:Int}:need true c a=.error ⟨c,a⟩:=rfl
section
variable (E:Env) (s:CS) (a k:Nat) (hsc:s.scopes=[]) (hah:zzz∉s.ahead) (hg:zy∉E.globals) (hp:lookup E.params zzz=some 1)
include hsc hah
theorem aei (i:Nat):jg E (bT a i) 1 k s=(gu E (bks a i) 2 0 ⟨[[]],[],zzz::s.ahead⟩ >>= fun s'=>(need (decide (64<constants (bT a i))) 84 (a+4:Nat) >>= fun _=>need (!E.free&&decide (64<registers (bT a i))) 83 (a+4:Nat)) >>= fun _=>.ok { s' with scopes:=s'.scopes.tail }):=by
 have h1:arity zzz=none:=by decide
 have h2:s.ahead.contains zzz=false:=by simpa using hah
 unfold bT leaf;rw[jg];simp only[h1,h2,hsc];simp only[show decide (256<1)=false from rfl,aaI,ob,show((3:Int)==2)=false from rfl,show((3:Int)==3)=true from rfl,Bool.false_or,if_true,Option.isSome_none];cases gu E (bks a i) 2 0 ⟨[[]],[],zzz::s.ahead⟩ with
 | error f=>rfl
 | ok s' =>
  simp only[ob];cases decide (64<constants (.mk ⟨3,(a+4:Nat),0,zzz,0,0⟩ (bks a i)))<;>simp only[aaI,ady,ob,eb]
  cases !E.free&&decide (64<registers (.mk ⟨3,(a+4:Nat),0,zzz,0,0⟩ (bks a i)))<;>simp only[aaI,ady,ob,eb]
  rfl
end
section
variable (E:Env) (ah:List Bytes) (a:Nat)
theorem bk4:gu E (bks a 4) 2 0 ⟨[[]],[],zzz::ah⟩=.ok ⟨[[zz]],[],zzz::ah⟩:=by
 simp[bks,leaf,gu,jg,known,CS.add,CS.top,aaI,ob,pb,aZ,Except.pure,pure]
theorem bk0 (hg:zy∉E.globals):gu E (bks a 0) 2 0 ⟨[[]],[],zzz::ah⟩=.error ⟨63,(a+21:Nat)⟩:=by
 have h:zy≠zz:=by decide
 simp[bks,leaf,gu,jg,known,CS.add,CS.top,aaI,ob,pb,hg,h,need,eb]
theorem bk1:gu E (bks a 1) 2 0 ⟨[[]],[],zzz::ah⟩=.error ⟨80,(a+12:Nat)⟩:=by
 simp[bks,leaf,gu,jg,known,CS.add,CS.top,aaI,ob,pb,need,eb]
theorem bk2:gu E (bks a 2) 2 0 ⟨[[]],[],zzz::ah⟩=.error ⟨82,(a+14:Nat)⟩:=by
 simp[bks,leaf,gu,jg,known,CS.add,CS.top,aaI,ob,pb,need,eb]
theorem bk3 (hp:lookup E.params zzz=some 1):gu E (bks a 3) 2 0 ⟨[[]],[],zzz::ah⟩=.error ⟨81,(a+14:Nat)⟩:=by
 simp[bks,leaf,gu,jg,known,CS.add,CS.top,aaI,ob,pb,need,eb,hp]
end
def NE {α:Type} (r:Except dS α):Prop:=∀f,r=.error f→f.code≠0
theorem NE.bind {α β:Type} {x:Except dS α} {f:α→Except dS β} (hx:NE x) (hf:∀a,NE (f a)):NE (x >>= f):=by
 intro e h;cases x with
 | error g=>cases h;exact hx _ rfl
 | ok a=>exact hf a e h
theorem NE.ok {α:Type} (a:α):NE (.ok a:Except dS α):=fun _ h=>by cases h
theorem NE.need {b:Bool} {e a:Int} (h:e≠0):NE (need b e a):=by
 intro f hf;cases b
 ·cases hf
 ·cases hf;exact h
theorem NE.err {α:Type} {e a:Int} (h:e≠0):NE (.error ⟨e,a⟩:Except dS α):=fun _ hf=>by cases hf;exact h
mutual
theorem ac4 (E:Env):∀(T:Tree) (d k:Nat) (s:CS),NE (jg E T d k s)
 | .mk n ks,d,k,s=>by
  have e1:=fun d k s=>abb E ks d k s
  have e2:=fun d x s=>afZ E ks d x s
  have e3:=fun d k v x s=>aem E ks d k v x s
  unfold jg;have nd:∀{b:Bool} {e a:Int} {α:Type} {f:Unit→Except dS α},e≠0→(∀u,NE (f u))→NE (need b e a >>= f):=fun h hf=>NE.bind (NE.need h) hf
  refine nd (by decide) fun _=>?_
  split
  ·refine nd (by decide) fun _=>NE.bind (e1 _ _ _) fun s1=>?_
   split
   ·exact nd (by decide) fun _=>nd (by decide) fun _=>NE.ok _
   ·exact NE.ok _
  split
  ·exact NE.bind (e1 _ _ _) fun _=>NE.ok _
  split
  ·exact nd (by decide) fun _=>NE.bind (e1 _ _ _) fun _=>NE.ok _
  split
  ·exact nd (by decide) fun _=>nd (by decide) fun _=>e2 _ _ _
  split
  ·exact nd (by decide) fun _=>e3 _ _ _ _ _
  split
  ·exact nd (by decide) fun _=>nd (by decide) fun _=>e1 _ _ _
  split
  ·exact nd (by decide) fun _=>e1 _ _ _
  split
  ·exact nd (by decide) fun _=>e1 _ _ _
  split
  ·split
   ·exact NE.bind (NE.err (by decide)) fun _=>e1 _ _ _
   ·exact nd (by decide) fun _=>e1 _ _ _
  split
  ·exact nd (by decide) fun _=>e1 _ _ _
  ·exact e1 _ _ _
theorem abb (E:Env):∀(l:List Tree) (d k:Nat) (s:CS),NE (gu E l d k s)
 | [],_,_,_=>by unfold gu;exact NE.ok _
 | t::l,d,k,s=>by
  unfold gu;exact NE.bind (ac4 E t d k s) fun s=>abb E l d (k+1) s
theorem afZ (E:Env):∀(l:List Tree) (d:Nat) (x:Bytes) (s:CS),NE (yX E l d x s)
 | [],_,_,_=>by unfold yX;exact NE.ok _
 | t::l,d,x,s=>by
  unfold yX;exact NE.bind (ac4 E t d 0 s) fun s=>NE.bind (abb E l d 1 _) fun _=>NE.ok _
theorem aem (E:Env):∀(l:List Tree) (d k:Nat) (v x:Bytes) (s:CS),NE (yY E l d k v x s)
 | [],_,_,_,_,_=>by unfold yY;exact NE.ok _
 | t::l,d,k,v,x,s=>by
  unfold yY;split
  ·exact NE.bind (ac4 E t d k _) fun _=>NE.ok _
  ·exact NE.bind (ac4 E t d k s) fun s=>aem E l d (k+1) v x s
end
def adz:Nat→Int
 | 0=>63
 | 1=>80
 | 2=>82
 | 3=>81
 | _=>0
def afv:Nat→Nat
 | 0=>21
 | 1=>12
 | _=>14
theorem afJ:∀a b:List Tree,rows (a++b)=rows a++rows b
 | [],_=>rfl
 | t::a,b=>by rw[List.cons_append,rows,rows,afJ a b,List.append_assoc]
theorem agi (a:Nat):(bT a 4).row.length=5:=by kernel_rfl
theorem afw (a:Nat):constants (bT a 4)=0:=by kernel_rfl
theorem af0 (a:Nat):registers (bT a 4)=2:=by kernel_rfl
theorem adX (s:Bytes) (hs:s.length≤60000) (T:Tree) (ts':TS) (hp:fU (aM s).2 (fuel s) (iM (aM s).1 0)=some (.ok (T,ts'))) (hG:T.all Gm) (hk:(bC T false).code=0) (hz:∀m∈T.row,m.text≠zy∧m.text≠zzz) :
  (∃R,kU (s++10::bq 4)=(R,⟨0,0⟩)∧R.length=T.row.length+5)∧∀i,i<4→kU (s++10::bq i)=([],⟨adz i,(s.length+afv i:Nat)⟩):=by
 obtain⟨ks,rfl,-⟩:=aaQ bp4 s T ts' hs hp
 have ha:oH (adk zzz) ks:=(abS _ (fun m hm=>(hz m hm).2)).2;have hy:oH (adk zy) ks:=(abS _ (fun m hm=>(hz m hm).1)).2
 have hkk:∀t∈ks,t.n.kind=2∨t.n.kind=3:=by
  have hg:=hG.1.2;unfold dR at hg;rw[if_pos rfl]at hg
  exact hg.2
 obtain⟨s',hs'⟩:∃s',gu (Dy (leaf 1 0 [] ks) false) ks 1 0 ⟨[],[],[]⟩=.ok s':=by
  unfold bC at hk;rw[abU]at hk
  cases h:gu (Dy (leaf 1 0 [] ks) false) ks 1 0 ⟨[],[],[]⟩ with
  | ok s'=>exact⟨s',rfl⟩
  | error f =>
   rw[h]at hk
   exact absurd hk (abb _ _ _ _ _ f h)
 obtain⟨hsc,hah⟩:=adn _ ks 1 0 _ _ hG.2 hkk hs'
 have hah:zzz∉s'.ahead:=fun hx=>by
  rcases hah _ hx with h|⟨t,ht,he⟩
  ·cases h
  ·obtain⟨n,l⟩:=t
   exact(dN ha _ ht).1 he
 have agn:zy∉tC ks:=fun hx=>by
  unfold tC at hx;obtain⟨t,ht,he⟩:=List.mem_map.1 hx
  obtain⟨n,l⟩:=t
  exact(dN hy _ (List.mem_filter.1 ht).1).1 he
 have hpar:lookup (vH ks) zzz=none:=Hr (fun p hp=>by
  unfold vH at hp;obtain⟨t,ht,rfl⟩:=List.mem_map.1 hp
  obtain⟨n,l⟩:=t
  exact(dN ha _ (List.mem_filter.1 ht).1).1)
 have hE:∀i,Dy (leaf 1 0 [] (ks++[bT s.length i])) false=⟨tC ks,vH ks++[(zzz,((bks s.length i).length:Int)-1)],false⟩:=fun i=>by
  unfold Dy tC vH leaf;simp only[Tree.ks,List.filter_append,List.map_append];simp[bT,leaf,Tree.n,Tree.ks]
 have agp:∀i,gu (Dy (leaf 1 0 [] (ks++[bT s.length i])) false) (ks++[bT s.length i]) 1 0 ⟨[],[],[]⟩=(jg (Dy (leaf 1 0 [] (ks++[bT s.length i])) false) (bT s.length i) 1 ks.length s' >>= fun s=>.ok s):=fun i=>by
  rw[aa5];rw[aaX (z:=zzz) (E:=Dy (leaf 1 0 [] ks) false) ?_ ks 1 0 _ ha,hs',ob,gu,Nat.zero_add]
  ·simp only[gu]
  ·rw[hE];refine⟨rfl,rfl,fun x hx=>?_⟩;show lookup (vH ks++_) x=lookup (vH ks) x;rw[lookup_append];cases lookup (vH ks) x with
   | some a=>rfl
   | none =>
    have:(zzz==x)=false:=by rw[beq_eq_false_iff_ne];exact fun e=>hx e.symm
    simp[lookup,this]
 have Tv:∀i,lookup (Dy (leaf 1 0 [] (ks++[bT s.length i])) false).params zzz=some (((bks s.length i).length:Int)-1):=fun i=>by
  rw[hE];show lookup (vH ks++_) zzz=_;rw[lookup_append,hpar];simp[lookup]
 have hgl:∀i,zy∉(Dy (leaf 1 0 [] (ks++[bT s.length i])) false).globals:=fun i=>by rw[hE];exact agn
 have hbad:∀i c (a:Int),c≠0→gu (Dy (leaf 1 0 [] (ks++[bT s.length i])) false) (bks s.length i) 2 0 ⟨[[]],[],zzz::s'.ahead⟩=.error ⟨c,a⟩→BP i→kU (s++10::bq i)=([],⟨c,a⟩):=by
  intro i c a hc he b;obtain⟨ks2,h2,h3⟩:=aaQ b s _ ts' hs hp
  injection h2 with _ h4;subst h4
  have h5:bC (leaf 1 0 [] (ks++[bT s.length i])) false=⟨c,a⟩:=by
   unfold bC;rw[abU,agp,aei _ _ _ _ hsc hah,he];rfl
  rw[h3,h5]
  have:((⟨c,a⟩:dS).code==0)=false:=by simpa using hc
  rw[this];rfl
 refine⟨?_,fun i hi=>?_⟩
 ·obtain⟨ks2,h2,h3⟩:=aaQ bp4 s _ ts' hs hp
  injection h2 with _ h4;subst h4
  have h5:bC (leaf 1 0 [] (ks++[bT s.length 4])) false=⟨0,0⟩:=by
   unfold bC;rw[abU,agp,aei _ _ _ _ hsc hah,bk4,ob,afw,af0];rfl
  rw[h3,h5];refine⟨_,rfl,?_⟩
  have:=agi s.length
  unfold leaf;simp only[Tree.row,List.length_cons,afJ,List.length_append,rows,List.append_nil];omega
 ·rcases(by omega:i=0∨i=1∨i=2∨i=3)with rfl|rfl|rfl|rfl
  ·exact hbad 0 _ _ (by decide) (bk0 _ _ _ (hgl 0)) bp0
  ·exact hbad 1 _ _ (by decide) (bk1 _ _ _) bp1
  ·exact hbad 2 _ _ (by decide) (bk2 _ _ _) bp2
  ·exact hbad 3 _ _ (by decide) (bk3 _ _ _ (Tv 3)) bp3
end Ck
end
section
open Go Go.Proofs Go.RowKit Go.Shelf Go.Lib Ck
namespace Ck
theorem aeJ (d:Int):∃k:Nat,k<4∧bits BinOp.and IntKind.i64 d 3=(k:Int):=by
 refine⟨(BitVec.ofInt 64 d &&& 3#64).toNat,?_,?_⟩
 ·rw[BitVec.toNat_and];exact Nat.lt_of_le_of_lt Nat.and_le_right (by decide)
 ·have h:(BitVec.ofInt 64 d &&& 3#64).toNat<4:=by
   rw[BitVec.toNat_and];exact Nat.lt_of_le_of_lt Nat.and_le_right (by decide)
  have h2:bits BinOp.and IntKind.i64 d 3=IntKind.i64.wrap (((BitVec.ofInt 64 d &&& 3#64).toNat:Nat):Int):=rfl;rw[h2];generalize (BitVec.ofInt 64 d &&& 3#64).toNat=x at *;obtain rfl|rfl|rfl|rfl:x=0∨x=1∨x=2∨x=3:=by omega
  all_goals rfl
theorem aeK {s:Bytes} (h:(kU s).2.code≠0):(kU s).1=[]:=by
 unfold kU at h ⊢;split at h
 ·split at h
  ·rename_i h2;exact absurd (by simpa using h2) h
  ·rename_i h2;rw[if_neg h2]
 ·split<;>rfl
 ·rfl
theorem au.aL {w:World} {b k:Nat} {c d:Array Value} {T U:TypeId} (hn:k≠b) (h:au w k c T):au (Ck.blk w b d U) k c T:=(bH hn).trans h
end Ck
namespace Go.Proofs.YtoomapkcoibmhaaGreatDoor
attribute [local go_sem] Oper.semAt_some
theorem aaw {W:World} {base n size:Nat} {e:TypeId} {v:Value} {xs:List Value} (h:W.ownsRow base e size v n xs):∃a c,v=.slice a n c:=by
 rcases h.2 with⟨rfl,rfl⟩|⟨g,cap,cur,rfl,_⟩
 ·exact⟨_,_,rfl⟩
 ·exact⟨_,_,rfl⟩
theorem adY (s:Bytes) (d:Int) (hs:5000<s.length) (w:World) :
  Calls Tryz.prog 4 #[.string ⟨s.toArray⟩,.int .i64 d] w fun e w'=>e=.returned (.bool true)∧Fr [] w w':=by
 go_enter Tryz.func4,Tryz.ntmps4;have h1:(5000:Int)<s.length:=by omega
 go_wp2;go_ret;exact⟨rfl,Fr.refl _ _⟩
theorem adZ (s:Bytes) (d:Int) (hs:s.length≤5000) (w:World) (hV:Vars w) (hf:(kU s).2.code≠0) :
  Calls Tryz.prog 4 #[.string ⟨s.toArray⟩,.int .i64 d] w fun e w'=>e=.returned (.bool true)∧Fr [] w w':=by
 have hl1:=sU s w hV (by omega);rw[aeK hf]at hl1
 obtain⟨c,hc⟩:∃c,(kU s).2.code=c:=⟨_,rfl⟩
 obtain⟨a,ha⟩:∃a,(kU s).2.at'=a:=⟨_,rfl⟩
 rw[hc,ha]at hl1
 rw[hc]at hf
 have h1:(s.length:Int)≤5000:=by omega
 have h2:(c != 0)=true:=by simpa using hf
 go_enter Tryz.func4,Tryz.ntmps4
 go_wp2_with (first
  | (go_at_call 8;refine hl1.mono ?_;rintro e w1 ⟨v1,rfl,hrow,hf1⟩;obtain⟨va,vc,rfl⟩:=aaw hrow;have hb1:=au.new w1 #[.int .i64 c,.int .i64 a] 26;obtain⟨q1,q2,q3,q4⟩:=hb1.rules;clear hl1)
  | (go_at_call 11;refine(Eu _ (hV.fr (hf1.alloc _) (by simp))).mono ?_;rintro e w3 ⟨rfl,hf3⟩))
 go_ret;exact⟨rfl,(hf1.alloc _).trans hf3⟩
theorem ac5 (s:Bytes) (h:(kU s).2.code=0):∃T ts',fU (aM s).2 (fuel s) (iM (aM s).1 0)=some (.ok (T,ts'))∧(bC T false).code=0∧kU s=(T.row,bC T false):=by
 unfold kU at h ⊢;cases hp:fU (aM s).2 (fuel s) (iM (aM s).1 0) with
 | none =>
  have:=uP s
  unfold parseWith at this;rw[hp]at this
  exact absurd rfl this
 | some r =>
  rw[hp]at h
  cases r with
  | error f =>
   simp only at h;cases hc:f.code==0
   ·rw[hc]at h
    simp only[Bool.false_eq_true,if_false]at h;rw[h]at hc;cases hc
   ·rw[hc]at h;cases h
  | ok p =>
   obtain⟨T,ts⟩:=p
   simp only at h ⊢;cases hc:(bC T false).code==0
   ·rw[hc]at h
    simp only[Bool.false_eq_true,if_false]at h;rw[h]at hc;cases hc
   ·exact⟨T,ts,rfl,beq_iff_eq.1 hc,by simp⟩
theorem adA (s:Bytes) (d:Int) (hs:s.length≤5000) (w:World) (hV:Vars w) (hf:(kU s).2.code=0) :
  Calls Tryz.prog 4 #[.string ⟨s.toArray⟩,.int .i64 d] w fun e w'=>e=.returned (.bool true)∧Fr [] w w':=by
 obtain⟨T,ts',hp,hck,hlo⟩:=ac5 s hf
 obtain⟨hG,hk⟩:=yP s _ T ts' hp
 have hlen:T.row.length≤65538:=by
  have h1:=FP _ _ _ _ _ hp;have h2:=qV s;rw[xP]at h1;omega
 obtain⟨a,ha⟩:∃a,(bC T false).at'=a:=⟨_,rfl⟩
 have hl1:=sU s w hV (by omega);rw[hlo]at hl1
 simp only[hck,ha]at hl1;have hne:T.row≠[]:=by cases T;simp[Tree.row]
 have af2:=fun hz=>adX s (by omega) T ts' hp hG hck hz
 obtain⟨R,hR⟩:∃R,T.row=R:=⟨_,rfl⟩
 rw[hR]at hl1 hlen hne af2
 clear hp hck hlo hG hk ha hf hR;have h1:(s.length:Int)≤5000:=by omega
 have hnm:=fun g c X xV hcap=>aeC R g c X xV hcap (by omega)
 have HV:=Lib.hid hV;clear hV;go_enter Tryz.func4,Tryz.ntmps4;cases hany:R.any isZ
 ·rw[hany]at hnm
  have hz:∀m∈R,m.text≠zy∧m.text≠zzz:=fun m hm=>by
   have h:=List.any_eq_false.1 hany m hm;unfold isZ at h;simp only[Bool.or_eq_true,beq_iff_eq,not_or]at h;exact h
  obtain⟨⟨R2,hR2,ah0⟩,hbad⟩:=af2 hz
  obtain⟨k,hk4,hkd⟩:=aeJ d
  clear af2 hz hany;have L2:=fun X hX=>sU (s++10::bq 4) X hX (by simp[bq];omega)
  rw[hR2]at L2
  simp only[ah0,←D8]at L2;clear hR2
  have L3:=fun i (hi:i<4) X hX=>by
   have h:=sU (s++10::bq i) X hX (by
    have:(bq i).length≤25:=by(unfold bq;split<;>decide)
    simp;omega)
   rw[hbad i hi]at h
   exact h
  clear hbad;have hz4:k=0∨k=1∨k=2∨k=3:=by omega
  simp only[bq]at L2;rcases hz4 with rfl|rfl|rfl|rfl
  ·have L4:=L3 0 (by omega);simp only[adz,afv,bq,List.length_nil,←D8]at L4;rw[show((s.length+21:Nat):Int)=(s.length:Int)+21 by omega]at L4
   clear L3
   go_wp2_with (first
    | (go_at_call 8;refine hl1.mono ?_;rintro e w1 ⟨v1,rfl,hrow,hf1⟩;obtain⟨g,c,rfl,hbg,NA,hcap⟩:=vg hrow hne;have hb1:=au.new w1 #[.int .i64 0,.int .i64 a] 26;obtain⟨q1,q2,q3,q4⟩:=hb1.rules;clear hl1 hrow)
    | (go_at_call 12;refine(hnm g c _ (NA.fr ((Fr.refl [] _).alloc _) (by simp)) hcap).mono ?_;rintro e w2 ⟨rfl,hf2⟩;clear hnm q1 q2 q3 q4)
    | (go_at_call 8;refine(L2 _ (HV.out.fr ((hf1.alloc _).trans hf2) (by simp))).mono ?_;rintro e w3 ⟨v3,rfl,hrow3,hf3⟩;obtain⟨va3,vc3,rfl⟩:=aaw hrow3;have Qn:=((hf1.alloc (.cells #[.int .i64 0,.int .i64 a] 26)).trans hf2).trans hf3;have hb2:=au.new w3 #[.int .i64 0,.int .i64 0] 26;obtain⟨q1,q2,q3,q4⟩:=hb2.rules;replace hb2:au (Ck.blk (w3.alloc (.cells #[.int .i64 0,.int .i64 0] 26)) w3.heap.size #[.int .i64 0,.int .i64 0] 26) w3.heap.size #[.int .i64 0,.int .i64 0] 26:=au.blk q4;have hb3:=au.new (Ck.blk (w3.alloc (.cells #[.int .i64 0,.int .i64 0] 26)) w3.heap.size #[.int .i64 0,.int .i64 0] 26) #[.int .i64 63,.int .i64 ((s.length:Int)+21)] 26;simp only[aB,World.size_alloc]at hb3;obtain⟨p1,p2,p3,p4⟩:=hb3.rules;clear L2 hrow3)
    | (go_at_call 8;refine(L4 _ (HV.out.fr (((Qn.alloc (.cells #[.int .i64 0,.int .i64 0] 26)).blk (b:=w3.heap.size) (.inr Qn.size) #[.int .i64 0,.int .i64 0] 26).alloc (.cells #[.int .i64 63,.int .i64 ((s.length:Int)+21)] 26)) (by simp))).mono ?_;rintro e w5 ⟨v5,rfl,aaH,fF⟩;obtain⟨va5,vc5,rfl⟩:=aaw aaH;obtain⟨q1,q2,q3,q4⟩:=((hb2.alloc (.cells #[.int .i64 63,.int .i64 ((s.length:Int)+21)] 26)).fr fF (by simp)).rules;obtain⟨p1,p2,p3,p4⟩:=(hb3.fr fF (by simp)).rules;clear L4 aaH)
    | (go_at_call 11;refine(Eu _ (HV.out.fr (((((Qn.alloc (.cells #[.int .i64 0,.int .i64 0] 26)).blk (b:=w3.heap.size) (.inr Qn.size) #[.int .i64 0,.int .i64 0] 26).alloc (.cells #[.int .i64 63,.int .i64 ((s.length:Int)+21)] 26)).trans fF).blk (.inr Qn.size) _ _) (by simp))).mono ?_;rintro e w6 ⟨rfl,jA⟩))
   go_ret;exact⟨rfl,(((((Qn.alloc (.cells #[.int .i64 0,.int .i64 0] 26)).blk (b:=w3.heap.size) (.inr Qn.size) #[.int .i64 0,.int .i64 0] 26).alloc (.cells #[.int .i64 63,.int .i64 ((s.length:Int)+21)] 26)).trans fF).blk (.inr Qn.size) _ _).trans jA⟩
  ·have L4:=L3 1 (by omega);simp only[adz,afv,bq,List.length_nil,←D8]at L4;rw[show((s.length+12:Nat):Int)=(s.length:Int)+12 by omega]at L4
   clear L3
   go_wp2_with (first
    | (go_at_call 8;refine hl1.mono ?_;rintro e w1 ⟨v1,rfl,hrow,hf1⟩;obtain⟨g,c,rfl,hbg,NA,hcap⟩:=vg hrow hne;have hb1:=au.new w1 #[.int .i64 0,.int .i64 a] 26;obtain⟨q1,q2,q3,q4⟩:=hb1.rules;clear hl1 hrow)
    | (go_at_call 12;refine(hnm g c _ (NA.fr ((Fr.refl [] _).alloc _) (by simp)) hcap).mono ?_;rintro e w2 ⟨rfl,hf2⟩;clear hnm q1 q2 q3 q4)
    | (go_at_call 8;refine(L2 _ (HV.out.fr ((hf1.alloc _).trans hf2) (by simp))).mono ?_;rintro e w3 ⟨v3,rfl,hrow3,hf3⟩;obtain⟨va3,vc3,rfl⟩:=aaw hrow3;have Qn:=((hf1.alloc (.cells #[.int .i64 0,.int .i64 a] 26)).trans hf2).trans hf3;have hb2:=au.new w3 #[.int .i64 0,.int .i64 0] 26;obtain⟨q1,q2,q3,q4⟩:=hb2.rules;replace hb2:au (Ck.blk (w3.alloc (.cells #[.int .i64 0,.int .i64 0] 26)) w3.heap.size #[.int .i64 0,.int .i64 0] 26) w3.heap.size #[.int .i64 0,.int .i64 0] 26:=au.blk q4;have hb3:=au.new (Ck.blk (w3.alloc (.cells #[.int .i64 0,.int .i64 0] 26)) w3.heap.size #[.int .i64 0,.int .i64 0] 26) #[.int .i64 63,.int .i64 ((s.length:Int)+21)] 26;simp only[aB,World.size_alloc]at hb3;obtain⟨p1,p2,p3,p4⟩:=hb3.rules;clear L2 hrow3)
    | (go_at_call 8;refine(L4 _ (HV.out.fr ((((Qn.alloc (.cells #[.int .i64 0,.int .i64 0] 26)).blk (b:=w3.heap.size) (.inr Qn.size) #[.int .i64 0,.int .i64 0] 26).alloc (.cells #[.int .i64 63,.int .i64 ((s.length:Int)+21)] 26)).blk (b:=w3.heap.size+1) (.inr (by have:=Qn.size;omega)) #[.int .i64 80,.int .i64 ((s.length:Int)+12)] 26) (by simp))).mono ?_;rintro e w5 ⟨v5,rfl,aaH,fF⟩;obtain⟨va5,vc5,rfl⟩:=aaw aaH;obtain⟨q1,q2,q3,q4⟩:=((au.aL (hb2.alloc (.cells #[.int .i64 63,.int .i64 ((s.length:Int)+21)] 26)) (by omega):au (Ck.blk _ (w3.heap.size+1) #[.int .i64 80,.int .i64 ((s.length:Int)+12)] 26) w3.heap.size _ _).fr fF (by simp)).rules;obtain⟨p1,p2,p3,p4⟩:=((au.blk (c:=#[.int .i64 80,.int .i64 ((s.length:Int)+12)]) (T:=26) p4).fr fF (by simp)).rules;clear L4 aaH)
    | (go_at_call 11;refine(Eu _ (HV.out.fr ((((((Qn.alloc (.cells #[.int .i64 0,.int .i64 0] 26)).blk (b:=w3.heap.size) (.inr Qn.size) #[.int .i64 0,.int .i64 0] 26).alloc (.cells #[.int .i64 63,.int .i64 ((s.length:Int)+21)] 26)).blk (b:=w3.heap.size+1) (.inr (by have:=Qn.size;omega)) #[.int .i64 80,.int .i64 ((s.length:Int)+12)] 26).trans fF).blk (.inr Qn.size) _ _) (by simp))).mono ?_;rintro e w6 ⟨rfl,jA⟩))
   go_ret;exact⟨rfl,((((((Qn.alloc (.cells #[.int .i64 0,.int .i64 0] 26)).blk (b:=w3.heap.size) (.inr Qn.size) #[.int .i64 0,.int .i64 0] 26).alloc (.cells #[.int .i64 63,.int .i64 ((s.length:Int)+21)] 26)).blk (b:=w3.heap.size+1) (.inr (by have:=Qn.size;omega)) #[.int .i64 80,.int .i64 ((s.length:Int)+12)] 26).trans fF).blk (.inr Qn.size) _ _).trans jA⟩
  ·have L4:=L3 2 (by omega);simp only[adz,afv,bq,List.length_nil,←D8]at L4;rw[show((s.length+14:Nat):Int)=(s.length:Int)+14 by omega]at L4
   clear L3
   go_wp2_with (first
    | (go_at_call 8;refine hl1.mono ?_;rintro e w1 ⟨v1,rfl,hrow,hf1⟩;obtain⟨g,c,rfl,hbg,NA,hcap⟩:=vg hrow hne;have hb1:=au.new w1 #[.int .i64 0,.int .i64 a] 26;obtain⟨q1,q2,q3,q4⟩:=hb1.rules;clear hl1 hrow)
    | (go_at_call 12;refine(hnm g c _ (NA.fr ((Fr.refl [] _).alloc _) (by simp)) hcap).mono ?_;rintro e w2 ⟨rfl,hf2⟩;clear hnm q1 q2 q3 q4)
    | (go_at_call 8;refine(L2 _ (HV.out.fr ((hf1.alloc _).trans hf2) (by simp))).mono ?_;rintro e w3 ⟨v3,rfl,hrow3,hf3⟩;obtain⟨va3,vc3,rfl⟩:=aaw hrow3;have Qn:=((hf1.alloc (.cells #[.int .i64 0,.int .i64 a] 26)).trans hf2).trans hf3;have hb2:=au.new w3 #[.int .i64 0,.int .i64 0] 26;obtain⟨q1,q2,q3,q4⟩:=hb2.rules;replace hb2:au (Ck.blk (w3.alloc (.cells #[.int .i64 0,.int .i64 0] 26)) w3.heap.size #[.int .i64 0,.int .i64 0] 26) w3.heap.size #[.int .i64 0,.int .i64 0] 26:=au.blk q4;have hb3:=au.new (Ck.blk (w3.alloc (.cells #[.int .i64 0,.int .i64 0] 26)) w3.heap.size #[.int .i64 0,.int .i64 0] 26) #[.int .i64 63,.int .i64 ((s.length:Int)+21)] 26;simp only[aB,World.size_alloc]at hb3;obtain⟨p1,p2,p3,p4⟩:=hb3.rules;clear L2 hrow3)
    | (go_at_call 8;refine(L4 _ (HV.out.fr ((((Qn.alloc (.cells #[.int .i64 0,.int .i64 0] 26)).blk (b:=w3.heap.size) (.inr Qn.size) #[.int .i64 0,.int .i64 0] 26).alloc (.cells #[.int .i64 63,.int .i64 ((s.length:Int)+21)] 26)).blk (b:=w3.heap.size+1) (.inr (by have:=Qn.size;omega)) #[.int .i64 82,.int .i64 ((s.length:Int)+14)] 26) (by simp))).mono ?_;rintro e w5 ⟨v5,rfl,aaH,fF⟩;obtain⟨va5,vc5,rfl⟩:=aaw aaH;obtain⟨q1,q2,q3,q4⟩:=((au.aL (hb2.alloc (.cells #[.int .i64 63,.int .i64 ((s.length:Int)+21)] 26)) (by omega):au (Ck.blk _ (w3.heap.size+1) #[.int .i64 82,.int .i64 ((s.length:Int)+14)] 26) w3.heap.size _ _).fr fF (by simp)).rules;obtain⟨p1,p2,p3,p4⟩:=((au.blk (c:=#[.int .i64 82,.int .i64 ((s.length:Int)+14)]) (T:=26) p4).fr fF (by simp)).rules;clear L4 aaH)
    | (go_at_call 11;refine(Eu _ (HV.out.fr ((((((Qn.alloc (.cells #[.int .i64 0,.int .i64 0] 26)).blk (b:=w3.heap.size) (.inr Qn.size) #[.int .i64 0,.int .i64 0] 26).alloc (.cells #[.int .i64 63,.int .i64 ((s.length:Int)+21)] 26)).blk (b:=w3.heap.size+1) (.inr (by have:=Qn.size;omega)) #[.int .i64 82,.int .i64 ((s.length:Int)+14)] 26).trans fF).blk (.inr Qn.size) _ _) (by simp))).mono ?_;rintro e w6 ⟨rfl,jA⟩))
   go_ret;exact⟨rfl,((((((Qn.alloc (.cells #[.int .i64 0,.int .i64 0] 26)).blk (b:=w3.heap.size) (.inr Qn.size) #[.int .i64 0,.int .i64 0] 26).alloc (.cells #[.int .i64 63,.int .i64 ((s.length:Int)+21)] 26)).blk (b:=w3.heap.size+1) (.inr (by have:=Qn.size;omega)) #[.int .i64 82,.int .i64 ((s.length:Int)+14)] 26).trans fF).blk (.inr Qn.size) _ _).trans jA⟩
  ·have L4:=L3 3 (by omega);simp only[adz,afv,bq,List.length_nil,←D8]at L4;rw[show((s.length+14:Nat):Int)=(s.length:Int)+14 by omega]at L4
   clear L3
   go_wp2_with (first
    | (go_at_call 8;refine hl1.mono ?_;rintro e w1 ⟨v1,rfl,hrow,hf1⟩;obtain⟨g,c,rfl,hbg,NA,hcap⟩:=vg hrow hne;have hb1:=au.new w1 #[.int .i64 0,.int .i64 a] 26;obtain⟨q1,q2,q3,q4⟩:=hb1.rules;clear hl1 hrow)
    | (go_at_call 12;refine(hnm g c _ (NA.fr ((Fr.refl [] _).alloc _) (by simp)) hcap).mono ?_;rintro e w2 ⟨rfl,hf2⟩;clear hnm q1 q2 q3 q4)
    | (go_at_call 8;refine(L2 _ (HV.out.fr ((hf1.alloc _).trans hf2) (by simp))).mono ?_;rintro e w3 ⟨v3,rfl,hrow3,hf3⟩;obtain⟨va3,vc3,rfl⟩:=aaw hrow3;have Qn:=((hf1.alloc (.cells #[.int .i64 0,.int .i64 a] 26)).trans hf2).trans hf3;have hb2:=au.new w3 #[.int .i64 0,.int .i64 0] 26;obtain⟨q1,q2,q3,q4⟩:=hb2.rules;replace hb2:au (Ck.blk (w3.alloc (.cells #[.int .i64 0,.int .i64 0] 26)) w3.heap.size #[.int .i64 0,.int .i64 0] 26) w3.heap.size #[.int .i64 0,.int .i64 0] 26:=au.blk q4;have hb3:=au.new (Ck.blk (w3.alloc (.cells #[.int .i64 0,.int .i64 0] 26)) w3.heap.size #[.int .i64 0,.int .i64 0] 26) #[.int .i64 63,.int .i64 ((s.length:Int)+21)] 26;simp only[aB,World.size_alloc]at hb3;obtain⟨p1,p2,p3,p4⟩:=hb3.rules;clear L2 hrow3)
    | (go_at_call 8;refine(L4 _ (HV.out.fr ((((Qn.alloc (.cells #[.int .i64 0,.int .i64 0] 26)).blk (b:=w3.heap.size) (.inr Qn.size) #[.int .i64 0,.int .i64 0] 26).alloc (.cells #[.int .i64 63,.int .i64 ((s.length:Int)+21)] 26)).blk (b:=w3.heap.size+1) (.inr (by have:=Qn.size;omega)) #[.int .i64 81,.int .i64 ((s.length:Int)+14)] 26) (by simp))).mono ?_;rintro e w5 ⟨v5,rfl,aaH,fF⟩;obtain⟨va5,vc5,rfl⟩:=aaw aaH;obtain⟨q1,q2,q3,q4⟩:=((au.aL (hb2.alloc (.cells #[.int .i64 63,.int .i64 ((s.length:Int)+21)] 26)) (by omega):au (Ck.blk _ (w3.heap.size+1) #[.int .i64 81,.int .i64 ((s.length:Int)+14)] 26) w3.heap.size _ _).fr fF (by simp)).rules;obtain⟨p1,p2,p3,p4⟩:=((au.blk (c:=#[.int .i64 81,.int .i64 ((s.length:Int)+14)]) (T:=26) p4).fr fF (by simp)).rules;clear L4 aaH)
    | (go_at_call 11;refine(Eu _ (HV.out.fr ((((((Qn.alloc (.cells #[.int .i64 0,.int .i64 0] 26)).blk (b:=w3.heap.size) (.inr Qn.size) #[.int .i64 0,.int .i64 0] 26).alloc (.cells #[.int .i64 63,.int .i64 ((s.length:Int)+21)] 26)).blk (b:=w3.heap.size+1) (.inr (by have:=Qn.size;omega)) #[.int .i64 81,.int .i64 ((s.length:Int)+14)] 26).trans fF).blk (.inr Qn.size) _ _) (by simp))).mono ?_;rintro e w6 ⟨rfl,jA⟩))
   go_ret;exact⟨rfl,((((((Qn.alloc (.cells #[.int .i64 0,.int .i64 0] 26)).blk (b:=w3.heap.size) (.inr Qn.size) #[.int .i64 0,.int .i64 0] 26).alloc (.cells #[.int .i64 63,.int .i64 ((s.length:Int)+21)] 26)).blk (b:=w3.heap.size+1) (.inr (by have:=Qn.size;omega)) #[.int .i64 81,.int .i64 ((s.length:Int)+14)] 26).trans fF).blk (.inr Qn.size) _ _).trans jA⟩
 ·rw[hany]at hnm
  clear af2 hany
  go_wp2_with (first
   | (go_at_call 8;refine hl1.mono ?_;rintro e w1 ⟨v1,rfl,hrow,hf1⟩;obtain⟨g,c,rfl,hbg,NA,hcap⟩:=vg hrow hne;have hb1:=au.new w1 #[.int .i64 0,.int .i64 a] 26;obtain⟨q1,q2,q3,q4⟩:=hb1.rules;clear hl1 hrow)
   | (go_at_call 12;refine(hnm g c _ (NA.fr ((Fr.refl [] _).alloc _) (by simp)) hcap).mono ?_;rintro e w2 ⟨rfl,hf2⟩))
  go_ret;exact⟨rfl,(hf1.alloc _).trans hf2⟩
theorem ad1 (s:Bytes) (d:Int) (w:World) (hV:Vars w) :
  Calls Tryz.prog 4 #[.string ⟨s.toArray⟩,.int .i64 d] w fun e w'=>e=.returned (.bool true)∧Fr [] w w':=by
 by_cases hs:s.length≤5000
 ·by_cases hf:(kU s).2.code=0
  ·exact adA s d hs w hV hf
  ·exact adZ s d hs w hV hf
 ·exact adY s d (by omega) w
end Go.Proofs.YtoomapkcoibmhaaGreatDoor
end
