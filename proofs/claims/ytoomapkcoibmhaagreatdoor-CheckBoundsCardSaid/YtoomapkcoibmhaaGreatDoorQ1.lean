/- A part of the proof. -/
set_option maxRecDepth 100000
set_option maxHeartbeats 12800000
set_option linter.all false
section
namespace Ck
abbrev Bytes:=List UInt8
structure Tok where
 kind:Int
 at':Int
 text:Bytes
 int:Int
 bits:Int
deriving DecidableEq,Repr,Inhabited
structure dS where
 code:Int
 at':Int
deriving DecidableEq,Repr,Inhabited
def digit (c:UInt8):Bool:=Nat.ble 48 c.toNat&&Nat.ble c.toNat 57
def lower (c:UInt8):Bool:=(Nat.ble 97 c.toNat&&Nat.ble c.toNat 122)||c.toNat==95
def lM (c:UInt8):Bool:=digit c||(Nat.ble 97 c.toNat&&Nat.ble c.toNat 102)
def run (p:UInt8→Bool):Bytes→Nat
 | []=>0
 | c::s=>if p c then run p s+1 else 0
def digits (s:Bytes):Bool:=s.all digit && !s.isEmpty
def dval (s:Bytes):Nat:=s.foldl (fun a c=>a*10+(c.toNat-48)) 0
def oQ:Int:=9218868437227405312
def wT:Int:=9221120237041090560
def rT (s:Bytes):Except Int Int :=
 if 64<s.length then .error 2
 else if !digits s||(s.head? == some 48&&s != [48])then .error 20
 else if 9223372036854775807<dval s then .error 13
 else .ok (dval s)
def bN (s:Bytes):Except Int Int :=
 if 64<s.length then .error 2
 else match s with
  | 45::d=>if !digits d||d.head? == some 48 then .error 20 else if 9223372036854775808<dval d then .error 13 else .ok (-(dval d:Int))
  | _=>rT s
def tK (c:UInt8):Nat:=if digit c then c.toNat-48 else c.toNat-87
def cut:Bytes→List Nat × Bytes
 | []=>([],[])
 | c::s=>if lM c then(tK c::(cut s).1,(cut s).2) else([],c::s)
def dropZeros:List Nat→List Nat
 | []=>[]
 | d::l=>if d==0 then dropZeros l else d::l
def Cy:Nat→Nat→Nat
 | 0,_=>0
 | f+1,m=>if m%2==0 then Cy f (m/2)+1 else 0
def qL (m:Nat) (e:Int):Option Int :=
 let low:=Cy 64 m
 let m:=m/2 ^ low
 let e:=e+low
 let n:=if m==0 then 0 else m.log2+1
 let top:=e+n-1
 if 53<n||1023<top||e < -1074 then none
 else if top < -1022 then some ((m*2 ^ (e+1074).toNat:Nat):Int)
 else some ((top+1023)*2 ^ 52+((m*2 ^ (53-n)%2 ^ 52:Nat):Int))
def exact(l:List Nat) (e:Int):Option Int :=
 let l:=dropZeros l
 let r:=dropZeros l.reverse
 let e:=e+4*((l.length-r.length:Nat):Int)
 if r.isEmpty then some 0
 else if 14<r.length then none
 else qL (r.reverse.foldl (fun a d=>a*16+d) 0) e
def dF (ok:Bool) (l:List Nat) (point:Nat) (s:Bytes):Except Int Int :=
 match s with
 | 112::sg::d =>
  if !ok||5<d.length||(sg != 43&&sg != 45) || !digits d then .error 20
  else match exact l ((if sg==45 then -(dval d:Int)else dval d)-4*(point:Int)) with
   | some b=>.ok b
   | none=>.error 21
 | _=>.error 20
def jR (s:Bytes):Except Int Int :=
 match (cut s).2 with
 | 46::r=>dF (!(cut s).1.isEmpty && !(cut r).1.isEmpty) ((cut s).1++(cut r).1) (cut r).1.length (cut r).2
 | _=>dF (!(cut s).1.isEmpty) (cut s).1 0 (cut s).2
def bD (s:Bytes):Except Int Int :=
 if 64<s.length then .error 2
 else if s==[110,97,110]then .ok wT
 else if s==[105,110,102]then .ok oQ
 else if s==[45,105,110,102]then .ok (9223372036854775808+oQ)
 else match s with
  | 48::120::d=>jR d
  | 45::48::120::d=>(match jR d with | .ok b=>.ok (9223372036854775808+b) | .error e=>.error e)
  | _=>.error 20
def words:List Bytes:=[[102,110],[108,101,116],[105,102],[101,108,115,101],[119,104,105,108,101],[102,111,114],[105,110],[98,114,101,97,107],[99,111,110,116,105,110,117,101],[114,101,116,117,114,110],[111,117,116],[97,110,100],[111,114],[110,111,116],[116,114,117,101],[102,97,108,115,101],[110,105,108]]
def marks:List Bytes:=[[61,61],[33,61],[60,61],[62,61],[60,60],[62,62],[47,47],[46,46],[43],[45],[42],[47],[37],[38],[124],[94],[126],[60],[62],[61],[40],[41],[123],[125],[91],[93],[44],[59],[58]]
abbrev LR:=Except Int (Tok × Nat)
def gq (s:Bytes):LR :=
 let n:=run (fun c=>lower c||digit c) s
 if 31<n then .error 63
 else
  let t:=s.take n
  if t==[105,110,102]then .ok (⟨5,0,[],0,oQ⟩,n)
  else if t==[110,97,110]then .ok (⟨5,0,[],0,wT⟩,n)
  else if words.contains t then .ok (⟨2,0,t,0,0⟩,n)
  else .ok (⟨1,0,t,0,0⟩,n)
def bW (s:Bytes):Nat :=
 let n:=2+run (fun c=>lM c||c==46) (s.drop 2)
 match s.drop n with
 | 112::r =>
  match r with
  | c::r'=>if c==43||c==45 then n+2+run digit r' else n+1+run digit r
  | []=>n+1
 | _=>n
def aP (s:Bytes):LR :=
 match bD (s.take (bW s)) with
 | .ok b=>.ok (⟨5,0,[],0,b⟩,bW s)
 | .error _=>.error 62
def jD (s:Bytes):LR :=
 match bN (s.take (run digit s)) with
 | .ok i=>.ok (⟨4,0,[],i,0⟩,run digit s)
 | .error _=>.error 62
def aS:Bytes→Bytes→Nat→LR
 | [],_,_=>.error 61
 | c::s,b,n =>
  if c==34 then .ok (⟨6,0,b,0,0⟩,n+1)
  else if c != 92&&Nat.ble 32 c.toNat&&Nat.ble c.toNat 126 then aS s (b++[c]) (n+1)
  else if c != 92 then .error 61
  else match s with
   | []=>.error 61
   | d::s' =>
    if d==92||d==34 then aS s' (b++[d]) (n+2)
    else if d==110 then aS s' (b++[10]) (n+2)
    else match s' with
     | x::y::s''=>if d==120&&lM x&&lM y then aS s'' (b++[UInt8.ofNat (tK x*16+tK y)]) (n+4)else .error 61
     | _=>.error 61
def jv (s:Bytes):LR :=
 match marks.find? (fun m=>m.isPrefixOf s) with
 | some m=>.ok (⟨3,0,m,0,0⟩,m.length)
 | none=>.error 60
def bM (s:Bytes):LR :=
 match s with
 | []=>.error 60
 | c::r =>
  if lower c then gq s
  else if [48,120].isPrefixOf s then aP s
  else if digit c then jD s
  else if c==34 then aS r [] 1
  else jv s
def lexFrom:Nat→Bytes→Nat→List Tok × dS
 | 0,_,_=>([],⟨-1,0⟩)
 | _+1,[],at'=>([⟨7,at',[],0,0⟩],⟨0,0⟩)
 | f+1,c::s,at' =>
  if c==32||c==9||c==10 then lexFrom f s (at'+1)
  else if c==35 then
   let k:=run (fun d=>d != 10) (c::s)
   lexFrom f ((c::s).drop k) (at'+k)
  else match bM (c::s) with
   | .error e=>([],⟨e,at'⟩)
   | .ok (t,k) =>
    let r:=lexFrom f ((c::s).drop k) (at'+k)
    ({ t with at':=at' }::r.1,r.2)
def aM (s:Bytes):List Tok × dS :=
 if 65536<s.length then([],⟨2,0⟩)else lexFrom (s.length+1) s 0
structure Node where
 kind:Int
 at':Int
 kids:Int
 text:Bytes
 int:Int
 bits:Int
deriving DecidableEq,Repr,Inhabited
inductive Tree where
 | mk (n:Node) (kids:List Tree)
deriving Repr,Inhabited
def Tree.n:Tree→Node | .mk n _=>n
def Tree.ks:Tree→List Tree | .mk _ k=>k
def opens (t:Tok):Bool:=t.kind==3&&(t.text==[40]||t.text==[91]||t.text==[123])
def closes (t:Tok):Bool:=t.kind==3&&(t.text==[41]||t.text==[93]||t.text==[125])
abbrev TS:=List (Tok × Int)
def iM:List Tok→Int→TS
 | [],_=>[]
 | t::l,n=>(t,n)::iM l (if opens t then n+1 else if closes t then n-1 else n)
abbrev P (α:Type):=TS→Option (Except dS (α × TS))
namespace P
def pure {α:Type} (a:α):P α:=fun ts=>some (.ok (a,ts))
def bind {α β:Type} (x:P α) (f:α→P β):P β:=fun ts =>
 match x ts with
 | none=>none
 | some (.error e)=>some (.error e)
 | some (.ok (a,ts'))=>f a ts'
instance:Monad P where
 pure:=P.pure
 bind:=P.bind
def fail {α:Type} (f:dS):P α:=fun _=>some (.error f)
def out {α:Type}:P α:=fun _=>none
end P
section
variable (F:dS)
def aW (ts:TS):Except dS Tok :=
 match ts with
 | []=>.error F
 | (t,o)::_=>if opens t&&decide (64≤o)then .error ⟨71,t.at'⟩else .ok t
def look:P Tok:=fun ts =>
 match aW F ts with
 | .ok t=>some (.ok (t,ts))
 | .error f=>some (.error f)
def og:P Tok:=fun ts =>
 match aW F ts.tail with
 | .ok t=>some (.ok (t,ts))
 | .error f=>some (.error f)
def oU:P Unit:=fun ts=>some (.ok ((),ts.tail))
def wrong {α:Type}:P α:=do
 let t ←look F
 P.fail ⟨70,t.at'⟩
def sees (k:Int) (l:List Bytes):P Bool:=do
 let t ←look F
 pure (t.kind==k&&l.contains t.text)
def skip (k:Int) (x:Bytes):P Bool:=do
 if ←sees F k [x] then
  oU
  pure true
 else pure false
def must (k:Int) (x:Bytes):P Int:=do
 let t ←look F
 if ←skip F k x then pure t.at' else wrong F
def take (k:Int):P Tok:=do
 let t ←look F
 if t.kind==k then
  oU
  pure t
 else wrong F
def leaf (kind at':Int) (text:Bytes) (kids:List Tree):Tree:=.mk ⟨kind,at',0,text,0,0⟩ kids
structure Rec where
 block:P Tree
 statement:P Tree
 choice:P Tree
 loop:Option Tok→P Tree
 expr:P Tree
 and':P Tree
 not':P Tree
 level:Nat→P Tree
 unary:P Tree
 primary:P Tree
def levels:List (List Bytes):=[[[124]],[[94]],[[38]],[[60,60],[62,62]],[[43],[45]],[[42],[47],[47,47],[37]]]
section
variable (r:Rec)
def rU:Nat→List Tree→P (List Tree)
 | 0,_=>P.out
 | n+1,ks=>do
  if ←skip F 3 [125]then pure ks
  else
   let s ←r.statement
   rU n (ks++[s])
def uI (n:Nat):P Tree:=do
 let a ←must F 3 [123]
 let ks ←rU F r n []
 pure (leaf 5 a [] ks)
def mO (t:Tree):P Tree:=do
 let _ ←must F 3 [59]
 pure t
def mX:P Tree:=do
 let e ←r.expr
 if e.n.kind==25||e.n.kind==24 then
  if ←skip F 3 [61] then
   let v ←r.expr
   if e.n.kind==25 then mO F (leaf 7 e.n.at' e.n.text [v])
   else mO F (leaf 8 e.n.at' [] [e.ks.getD 0 default,e.ks.getD 1 default,v])
  else mO F (leaf 17 e.n.at' [] [e])
 else mO F (leaf 17 e.n.at' [] [e])
def iP:P Tree:=do
 let t ←look F
 let c ←(if t.kind==1 then do
   let c ←og F
   pure (c.kind==3&&c.text==[58])
  else pure false)
 if c then
  oU
  oU
  if ←sees F 2 [[119,104,105,108,101],[102,111,114]]then r.loop (some t)else wrong F
 else if t.kind==2 then
  if t.text==[108,101,116] then
   oU
   let n ←take F 1
   let _ ←must F 3 [61]
   let e ←r.expr
   mO F (leaf 6 n.at' n.text [e])
  else if t.text==[105,102]then r.choice
  else if t.text==[119,104,105,108,101]||t.text==[102,111,114]then r.loop none
  else if t.text==[98,114,101,97,107]||t.text==[99,111,110,116,105,110,117,101] then
   oU
   let k:Int:=if t.text==[99,111,110,116,105,110,117,101]then 14 else 13
   let c ←look F
   if c.kind==1 then
    let l ←take F 1
    mO F (leaf k t.at' l.text [])
   else mO F (leaf k t.at' [] [])
  else if t.text==[114,101,116,117,114,110] then
   oU
   if ←sees F 3 [[59]]then mO F (leaf 15 t.at' [] [])
   else
    let e ←r.expr
    mO F (leaf 15 t.at' [] [e])
  else if t.text==[111,117,116] then
   oU
   let e ←r.expr
   mO F (leaf 16 t.at' [] [e])
  else mX F r
 else mX F r
def qM:P Tree:=do
 let a ←must F 2 [105,102]
 let e ←r.expr
 let b ←r.block
 if ←skip F 2 [101,108,115,101] then
  if ←sees F 2 [[105,102]] then
   let c ←r.choice
   pure (leaf 9 a [] [e,b,c])
  else
   let c ←r.block
   pure (leaf 9 a [] [e,b,c])
 else pure (leaf 9 a [] [e,b])
def zD (label:Option Tok):P Tree:=do
 let t ←take F 2
 if t.text==[119,104,105,108,101] then
  let e ←r.expr
  let b ←r.block
  pure (leaf 10 t.at' (match label with|some l=>l.text|none=>[]) [e,b])
 else
  let v ←take F 1
  let l:List Tree:=match label with|some l=>[leaf 12 l.at' l.text []]|none=>[]
  let _ ←must F 2 [105,110]
  let e ←r.expr
  let _ ←must F 3 [46,46]
  let g ←r.expr
  let b ←r.block
  pure (leaf 11 t.at' v.text (l++[e,g,b]))
def vF:Nat→Tree→P Tree
 | 0,_=>P.out
 | n+1,e=>do
  if ←sees F 2 [[111,114]] then
   let a ←must F 2 [111,114]
   let f ←r.and'
   vF n (leaf 18 a [] [e,f])
  else pure e
def Li (n:Nat):P Tree:=do
 let e ←r.and'
 vF F r n e
def ED:Nat→Tree→P Tree
 | 0,_=>P.out
 | n+1,e=>do
  if ←sees F 2 [[97,110,100]] then
   let a ←must F 2 [97,110,100]
   let f ←r.not'
   ED n (leaf 19 a [] [e,f])
  else pure e
def Rl (n:Nat):P Tree:=do
 let e ←r.not'
 ED F r n e
def zF (e:Tree) (k:Nat):P Tree:=do
 let t ←take F 3
 let f ←r.level k
 pure (leaf 21 t.at' t.text [e,f])
def Mv:P Tree:=do
 if ←sees F 2 [[110,111,116]] then
  let a ←must F 2 [110,111,116]
  let e ←r.not'
  pure (leaf 20 a [] [e])
 else
  let e ←r.level 0
  if ←sees F 3 [[61,61],[33,61],[60],[60,61],[62],[62,61]]then zF F r e 0 else pure e
def qN (k:Nat) (l:List Bytes):Nat→Tree→P Tree
 | 0,_=>P.out
 | n+1,e=>do
  if ←sees F 3 l then
   let e' ←zF F r e (k+1)
   qN k l n e'
  else pure e
def lN (n:Nat) (k:Nat):P Tree:=do
 match levels[k]? with
 | none=>r.unary
 | some l =>
  let e ←r.level (k+1)
  qN F r k l n e
def qO:Nat→Tree→P Tree
 | 0,_=>P.out
 | n+1,e=>do
  if ←sees F 3 [[91]] then
   let a ←must F 3 [91]
   let f ←r.expr
   let _ ←must F 3 [93]
   qO n (leaf 24 a [] [e,f])
  else pure e
def wU (n:Nat):P Tree:=do
 if ←sees F 3 [[45],[126]] then
  let t ←take F 3
  let e ←r.unary
  pure (leaf 22 t.at' t.text [e])
 else
  let e ←r.primary
  qO F r n e
def vG:Nat→List Tree→P (List Tree)
 | 0,_=>P.out
 | n+1,ks=>do
  let e ←r.expr
  if ←skip F 3 [44]then vG n (ks++[e])
  else
   let _ ←must F 3 [41]
   pure (ks++[e])
def gY (t:Bytes):Option Int :=
 if t==[116,114,117,101]then some 29
 else if t==[102,97,108,115,101]then some 30
 else if t==[110,105,108]then some 31
 else none
def jS (n:Nat):P Tree:=do
 let t ←look F
 if t.kind==4 then
  oU
  pure (.mk ⟨26,t.at',0,[],t.int,0⟩ [])
 else if t.kind==5 then
  oU
  pure (.mk ⟨27,t.at',0,[],0,t.bits⟩ [])
 else if t.kind==6 then
  oU
  pure (leaf 28 t.at' t.text [])
 else if t.kind==2 then
  match gY t.text with
  | some k=>do
   oU
   pure (leaf k t.at' [] [])
  | none=>wrong F
 else if t.kind==1 then
  oU
  if ←skip F 3 [40] then
   if ←skip F 3 [41]then pure (leaf 23 t.at' t.text [])
   else
    let ks ←vG F r n []
    pure (leaf 23 t.at' t.text ks)
  else pure (leaf 25 t.at' t.text [])
 else if t.kind==3 then
  if ←skip F 3 [40] then
   let e ←r.expr
   let _ ←must F 3 [41]
   pure e
  else wrong F
 else wrong F
def step (n:Nat):Rec where
 block:=uI F r n
 statement:=iP F r
 choice:=qM F r
 loop:=zD F r
 expr:=Li F r n
 and':=Rl F r n
 not':=Mv F r
 level:=lN F r n
 unary:=wU F r n
 primary:=jS F r n
end
def recs:Nat→Rec
 | 0=>⟨P.out,P.out,P.out,fun _=>P.out,P.out,P.out,P.out,fun _=>P.out,P.out,P.out⟩
 | n+1=>step F (recs n) n
def nJ:Nat→List Tree→P (List Tree)
 | 0,_=>P.out
 | n+1,ks=>do
  let t ←take F 1
  if ←skip F 3 [44]then nJ n (ks++[leaf 4 t.at' t.text []])
  else
   let _ ←must F 3 [41]
   pure (ks++[leaf 4 t.at' t.text []])
def iD (r:Rec) (n:Nat):P Tree:=do
 let t ←take F 1
 let _ ←must F 3 [40]
 let ps ←(do if ←skip F 3 [41]then pure []else nJ F n [])
 let b ←r.block
 pure (leaf 3 t.at' t.text (ps++[b]))
def jT (r:Rec) (m:Nat):Nat→List Tree→P (List Tree)
 | 0,_=>P.out
 | n+1,ks=>do
  let t ←look F
  if t.kind==7 then pure ks
  else if ←skip F 2 [108,101,116] then
   let t ←take F 1
   let _ ←must F 3 [59]
   jT r m n (ks++[leaf 2 t.at' t.text []])
  else if ←skip F 2 [102,110] then
   let f ←iD F r m
   jT r m n (ks++[f])
  else wrong F
def fU (n:Nat):P Tree:=do
 let ks ←jT F (recs F n) n n []
 pure (leaf 1 0 [] ks)
end
mutual
def Tree.row:Tree→List Node
 | .mk n ks=>{ n with kids:=(ks.length:Int) }::rows ks
def rows:List Tree→List Node
 | []=>[]
 | t::l=>t.row++rows l
end
def parseWith (n:Nat) (s:Bytes):Option (List Node × dS) :=
 match fU (aM s).2 n (iM (aM s).1 0) with
 | none=>none
 | some (.error f)=>some ([],f)
 | some (.ok (t,_))=>some (t.row,⟨0,0⟩)
def Gj:Nat→Nat→Bytes→Bytes
 | 0,_,acc=>acc
 | f+1,n,acc=>if n<10 then UInt8.ofNat (48+n)::acc else Gj f (n/10) (UInt8.ofNat (48+n%10)::acc)
def dec (n:Nat):Bytes:=Gj (n+1) n []
def EF (i:Int):Bytes:=if i<0 then 45::dec i.natAbs else dec i.natAbs
def nK (n:Nat):UInt8:=UInt8.ofNat (if n<10 then 48+n else 87+n)
def rH:Nat→Nat→Bytes
 | 0,_=>[]
 | f+1,m=>if m==0 then[]else nK (m/2 ^ 48)::rH f (m*16%2 ^ 52)
def iE (f:Nat) (e:Int):Bytes :=
 [48,120,49]++(if f==0 then[] else[46])++rH 14 f++[112]++(if 0≤e then[43] else[])++EF e
def iQ (b:Nat):Bytes :=
 let sign:Bytes:=if b/2 ^ 63==1 then[45] else[]
 let f:Nat:=b%2 ^ 52
 let e:Nat:=b/2 ^ 52%2048
 if e==2047&&f != 0 then[110,97,110]
 else if e==2047 then sign++[105,110,102]
 else if e==0&&f==0 then sign++[48,120,48,112,43,48]
 else if e==0 then
  let up:Nat:=52-f.log2
  sign++iE (f*2 ^ up%2 ^ 52) (1-(up:Int)-1023)
 else sign++iE f ((e:Int)-1023)
def dA (c:UInt8):Bytes :=
 if c==34||c==92 then[92,c]
 else if c==10 then[92,110]
 else if Nat.blt c.toNat 32||Nat.blt 126 c.toNat then[92,120,nK (c.toNat/16),nK (c.toNat%16)]
 else[c]
def quote (s:Bytes):Bytes:=34::(s.flatMap dA++[34])
def iF (s:Bytes):Bool :=
 match aM s with
 | ([t,_],f)=>f.code==0&&t.kind==1&&t.text==s
 | _=>false
abbrev Pr (α:Type):=List Node × List Bytes→Option (Option (α × (List Node × List Bytes)))
namespace Pr
def pure {α:Type} (a:α):Pr α:=fun s=>some (some (a,s))
def bind {α β:Type} (x:Pr α) (f:α→Pr β):Pr β:=fun s =>
 match x s with
 | none=>none
 | some none=>some none
 | some (some (a,s'))=>f a s'
instance:Monad Pr where
 pure:=Pr.pure
 bind:=Pr.bind
def out {α:Type}:Pr α:=fun _=>none
end Pr
def fit (b:Bool):Pr Unit:=fun s=>if b then some (some ((),s))else some none
def tw (l:List Bytes):Nat:=(l.map fun x=>x.length+16).sum
def wV:Nat:=1099511627776
def put (l:List Bytes):Pr Unit:=fun s=>if tw (s.2++l)≤wV then some (some ((),(s.1,s.2++l)))else none
def mP:Pr Int:=fun s=>some (some ((match s.1 with | []=>0|n::_=>n.kind),s))
def jw (text whole bits:Bool):Pr Node:=fun s =>
 match s.1 with
 | []=>some none
 | n::l=>if decide (0≤n.kids)&&(text||n.text==[])&&(whole||n.int==0)&&(bits||n.bits==0)then some (some (n,(l,s.2)))else some none
def nameP (s:Bytes):Pr Bytes:=do
 fit (iF s)
 pure s
def jo (kind kids:Int):Pr Bytes:=do
 let k ←mP
 fit (k==kind)
 let n ←jw true false false
 fit (n.kids==kids)
 nameP n.text
def oh (kind kids:Int):Pr Unit:=do
 let k ←mP
 fit (k==kind)
 let n ←jw false false false
 fit (n.kids==kids)
structure gG where
 block:Pr Unit
 statement:Pr Unit
 choice:Pr Unit
 loop:Pr Unit
 expr:Pr Unit
def uJ (x:Pr Unit):Nat→Pr Unit
 | 0=>pure ()
 | n+1=>do
  x
  uJ x n
def binaries:List Bytes:=[[124],[94],[38],[60,60],[62,62],[43],[45],[42],[47],[47,47],[37],[61,61],[33,61],[60],[60,61],[62],[62,61]]
section
variable (r:gG)
def uK:Pr Unit:=do
 let k ←mP
 fit (k==5)
 put [[123]]
 let n ←jw false false false
 uJ r.statement n.kids.toNat
 put [[125]]
def jU:Pr Unit:=do
 r.expr
 put [[91]]
 r.expr
 put [[93]]
def bf:Pr Unit:=do
 let k ←mP
 if k==6 then
  let s ←jo 6 1
  put [[108,101,116],s,[61]]
  r.expr
  put [[59]]
 else if k==7 then
  let s ←jo 7 1
  put [s,[61]]
  r.expr
  put [[59]]
 else if k==8 then
  oh 8 3
  jU r
  put [[61]]
  r.expr
  put [[59]]
 else if k==9 then r.choice
 else if k==10||k==11 then r.loop
 else if k==13||k==14 then
  let w:Bytes:=if k==14 then[99,111,110,116,105,110,117,101] else[98,114,101,97,107]
  let n ←jw true false false
  fit (n.kids==0)
  put [w]
  if n.text != [] then
   let s ←nameP n.text
   put [s]
  put [[59]]
 else if k==15 then
  let n ←jw false false false
  fit (decide (n.kids≤1))
  put [[114,101,116,117,114,110]]
  if n.kids==1 then r.expr
  put [[59]]
 else if k==16 then
  oh 16 1
  put [[111,117,116]]
  r.expr
  put [[59]]
 else
  oh 17 1
  r.expr
  put [[59]]
def pE:Pr Unit:=do
 let n ←jw false false false
 fit (n.kids==2||n.kids==3)
 put [[105,102]]
 r.expr
 r.block
 if n.kids==2 then pure ()
 else
  put [[101,108,115,101]]
  let k ←mP
  if k==9 then r.choice else r.block
def yt:Pr Unit:=do
 let k ←mP
 let n ←jw true false false
 if k==10 then
  fit (n.kids==2)
  if n.text != [] then
   let s ←nameP n.text
   put [s,[58]]
  put [[119,104,105,108,101]]
  r.expr
  r.block
 else
  fit (n.kids==3||n.kids==4)
  if n.kids==4 then
   let s ←jo 12 0
   put [s,[58]]
  let s ←nameP n.text
  put [[102,111,114],s,[105,110]]
  r.expr
  put [[46,46]]
  r.expr
  r.block
def yu (w:Bytes):Pr Unit:=do
 put [[40]]
 r.expr
 put [w]
 r.expr
 put [[41]]
def tQ:Nat→Pr Unit
 | 0=>pure ()
 | n+1=>do
  put [[44]]
  r.expr
  tQ n
def fQ:Pr Unit:=do
 let k ←mP
 if k==18||k==19 then
  oh k 2
  yu r (if k==19 then[97,110,100] else[111,114])
 else if k==20 then
  oh k 1
  put [[40],[110,111,116]]
  r.expr
  put [[41]]
 else if k==21 then
  let n ←jw true false false
  fit (n.kids==2&&binaries.contains n.text)
  yu r n.text
 else if k==22 then
  let n ←jw true false false
  fit (n.kids==1&&(n.text==[45]||n.text==[126]))
  put [[40],n.text]
  r.expr
  put [[41]]
 else if k==23 then
  let n ←jw true false false
  let s ←nameP n.text
  put [s,[40]]
  (match n.kids.toNat with
   | 0=>pure ()
   | m+1=>do
    r.expr
    tQ r m)
  put [[41]]
 else if k==24 then
  oh k 2
  jU r
 else if k==25 then
  let s ←jo k 0
  put [s]
 else if k==26 then
  let n ←jw false true false
  fit (n.kids==0&&decide (0≤n.int))
  put [EF n.int]
 else if k==27 then
  let n ←jw false false true
  fit (n.kids==0&&(decide (n.bits≤oQ)||n.bits==wT))
  put [iQ n.bits.toNat]
 else if k==28 then
  let n ←jw true false false
  fit (n.kids==0)
  put [quote n.text]
 else if k==29 then
  oh k 0
  put [[116,114,117,101]]
 else if k==30 then
  oh k 0
  put [[102,97,108,115,101]]
 else
  oh 31 0
  put [[110,105,108]]
def S9:gG:=⟨uK r,bf r,pE r,yt r,fQ r⟩
end
def precs:Nat→gG
 | 0=>⟨Pr.out,Pr.out,Pr.out,Pr.out,Pr.out⟩
 | n+1=>S9 (precs n)
def mq:Nat→Pr Unit
 | 0=>pure ()
 | n+1=>do
  put [[44]]
  let s ←jo 4 0
  put [s]
  mq n
def kM (r:gG):Pr Unit:=do
 let k ←mP
 fit (k==3)
 let f ←jw true false false
 fit (decide (0<f.kids))
 let s ←nameP f.text
 put [[102,110],s,[40]]
 (match (f.kids-1).toNat with
  | 0=>pure ()
  | m+1=>do
   let s ←jo 4 0
   put [s]
   mq m)
 put [[41]]
 r.block
def yV (r:gG):Pr Unit:=do
 let k ←mP
 if k==2 then
  let s ←jo 2 0
  put [[108,101,116],s,[59]]
 else kM r
def jV (r:gG):Pr Unit:=do
 let k ←mP
 fit (k==1)
 let n ←jw false false false
 uJ (yV r) n.kids.toNat
def nE:List Bytes→Bytes
 | []=>[]
 | [x]=>x
 | x::y::l=>x++32::nE (y::l)
def lQ (n:Nat) (l:List Node):Option (Option Bytes) :=
 match jV (precs n) (l,[]) with
 | none=>none
 | some none=>some none
 | some (some (_,(rest,toks))) =>
  if rest.isEmpty then some (some (if toks.isEmpty then[]else nE toks++[10]))else some none
def builtins:List (Bytes × Int):=[([105,110,116],1),([102,108,111,97,116],1),([116,101,120,116],1),([110,117,109],1),([108,101,110],1),([115,117,98],3),([98,121,116,101],2),([99,104,114],1),([98,105,116,115],1),([102,114,111,109,98,105,116,115],1),([102,54,52],1),([102,51,50],1),([105,49,54],1),([117,56],1),([114,111,119],1),([118,105,101,119],4),([108,111,97,100],2),([115,116,111,114,101],3),([107,105,110,100],1)]
def lookup (l:List (Bytes × Int)) (s:Bytes):Option Int :=
 match l with
 | []=>none
 | (n,a)::r=>if n==s then some a else lookup r s
def arity (s:Bytes):Option Int:=lookup builtins s
mutual
def Tree.size:Tree→Nat
 | .mk _ ks=>sizes ks+1
def sizes:List Tree→Nat
 | []=>0
 | t::l=>t.size+sizes l
end
def sameConst (a b:Node):Bool:=a.kind==b.kind&&a.kids==b.kids&&a.text==b.text&&a.int==b.int&&a.bits==b.bits
def isConst (n:Node):Bool:=n.kind==26||n.kind==27||n.kind==28
def unlike:List Node→List Node→List Node
 | [],met=>met
 | n::l,met=>if isConst n && !(met.any (sameConst n))then unlike l (n::met)else unlike l met
def constants (t:Tree):Nat:=(unlike t.row []).length
mutual
def Tree.height:Tree→Nat→Nat
 | .mk n ks,h =>
  if n.kind==5 then mD ks h h
  else if n.kind==11 then max (h+3) (jy ks h)
  else if n.kind==21||n.kind==24||n.kind==23 then max (h+1) (fD ks h)
  else if n.kind==8 then max h (fD ks h)
  else if n.kind==18||n.kind==19||n.kind==20||n.kind==22||25≤n.kind then max (h+1) (fE ks h)
  else max h (fE ks h)
def fE:List Tree→Nat→Nat
 | [],_=>0
 | t::l,h=>max (t.height h) (fE l h)
def fD:List Tree→Nat→Nat
 | [],_=>0
 | t::l,h=>max (t.height h) (fD l (h+1))
def mD:List Tree→Nat→Nat→Nat
 | [],_,m=>m
 | t::l,h,m=>mD l (if t.n.kind==6 then h+1 else h) (max m (t.height h))
def jy:List Tree→Nat→Nat
 | [],_=>0
 | t::l,h =>
  match l with
  | []=>t.height (h+3)
  | [_]=>max (t.height (h+1)) (jy l h)
  | [_,_]=>max (t.height h) (jy l h)
  | _=>jy l h
end
def registers (t:Tree):Nat :=
 let n:=t.ks.length-1
 max n ((t.ks.getLast?.getD default).height n)
structure Env where
 globals:List Bytes
 params:List (Bytes × Int)
 free:Bool
structure CS where
 scopes:List (List Bytes)
 loops:List Bytes
 ahead:List Bytes
def CS.top (s:CS):List Bytes:=s.scopes.headD []
def CS.add (s:CS) (x:Bytes):CS:={ s with scopes:=(x::s.top)::s.scopes.tail }
def known (E:Env) (s:CS) (x:Bytes):Bool:=E.globals.contains x||s.scopes.any (·.contains x)
def need (b:Bool) (e at':Int):Except dS Unit:=if b then .error ⟨e,at'⟩else .ok ()
mutual
def jg (E:Env):Tree→Nat→Nat→CS→Except dS CS
 | .mk n ks,above,k,s=>do
  need (decide (256<above)) 71 n.at'
  if n.kind==2||n.kind==3 then
   need ((arity n.text).isSome||s.ahead.contains n.text) 80 n.at'
   let s:={ s with ahead:=n.text::s.ahead,loops:=[] }
   let s' ←gu E ks (above+1) 0 { s with scopes:=[]::s.scopes }
   let s:={ s' with scopes:=s'.scopes.tail }
   if n.kind==3 then
    need (decide (64<constants (.mk n ks))) 84 n.at'
    need (!E.free&&decide (64<registers (.mk n ks))) 83 n.at'
   pure s
  else if n.kind==5 then
   let s' ←gu E ks (above+1) 0 { s with scopes:=[]::s.scopes }
   pure { s' with scopes:=s'.scopes.tail }
  else if n.kind==6 then
   need (s.top.contains n.text) 80 n.at'
   let s ←gu E ks (above+1) 0 s
   pure (s.add n.text)
  else if n.kind==10 then
   need (n.text != []&&s.loops.contains n.text) 80 n.at'
   need (decide (1000<(Tree.mk n ks).size)) 85 n.at'
   yX E ks (above+1) n.text s
  else if n.kind==11 then
   need (decide (1000<(Tree.mk n ks).size)) 85 n.at'
   yY E ks (above+1) 0 n.text (if ks.length==4 then(ks.headD default).n.text else[]) s
  else
   if n.kind==4 then
    need (s.top.contains n.text) 80 n.at'
    need (decide (16≤k)) 81 n.at'
   else if n.kind==12 then need (s.loops.contains n.text) 80 n.at'
   else if n.kind==25||n.kind==7 then need (!known E s n.text) 63 n.at'
   else if n.kind==23 then
    match (match lookup E.params n.text with|some a=>some a|none=>arity n.text) with
    | none=>.error ⟨63,n.at'⟩
    | some a=>need (a != (ks.length:Int)) 81 n.at'
   else if n.kind==13||n.kind==14 then
    need (s.loops.isEmpty||(n.text != [] && !s.loops.contains n.text)) 82 n.at'
   let s:=if n.kind==4 then s.add n.text else s
   gu E ks (above+1) 0 s
def gu (E:Env):List Tree→Nat→Nat→CS→Except dS CS
 | [],_,_,s=>.ok s
 | t::l,above,k,s=>do
  let s ←jg E t above k s
  gu E l above (k+1) s
def yX (E:Env):List Tree→Nat→Bytes→CS→Except dS CS
 | [],_,_,s=>.ok s
 | c::l,above,x,s=>do
  let s ←jg E c above 0 s
  let s' ←gu E l above 1 { s with loops:=x::s.loops }
  pure { s' with loops:=s'.loops.tail }
def yY (E:Env):List Tree→Nat→Nat→Bytes→Bytes→CS→Except dS CS
 | [],_,_,_,_,s=>.ok s
 | t::l,above,k,v,x,s =>
  if l.isEmpty then do
   let s' ←jg E t above k { s with loops:=x::s.loops,scopes:=[v]::s.scopes }
   pure { s' with loops:=s'.loops.tail,scopes:=s'.scopes.tail }
  else do
   let s ←jg E t above k s
   yY E l above (k+1) v x s
end
def tC (ks:List Tree):List Bytes:=(ks.filter (fun t=>t.n.kind==2)).map (fun t=>t.n.text)
def vH (ks:List Tree):List (Bytes × Int):=(ks.filter (fun t=>t.n.kind != 2)).map (fun t=>(t.n.text,(t.ks.length:Int)-1))
def Dy (t:Tree) (free:Bool):Env:=⟨tC t.ks,vH t.ks,free⟩
def bC (t:Tree) (free:Bool):dS :=
 match jg (Dy t free) t 0 0 ⟨[],[],[]⟩ with
 | .ok _=>⟨0,0⟩
 | .error f=>f
def pU (ok:Bool) (s:Bytes):Except Int Int :=
 match (cut s).2 with
 | 46::r=>dF (ok && !(cut s).1.isEmpty && !(cut r).1.isEmpty) ((cut s).1++(cut r).1) (cut r).1.length (cut r).2
 | _=>dF (ok && !(cut s).1.isEmpty) (cut s).1 0 (cut s).2
theorem yZ (l:List Nat) (p:Nat) (s:Bytes):dF false l p s=.error 20:=by
 unfold dF;split
 ·simp
 ·rfl
theorem yw (s:Bytes):pU true s=jR s:=by
 unfold pU jR
 split<;>rename_i h<;>simp[h]
theorem EG (s:Bytes):pU false s=.error 20:=by
 unfold pU
 split<;>simp[yZ]
def minus (s:Bytes):Bytes:=if [45].isPrefixOf s then s.drop 1 else s
def rV (s:Bytes):Bytes:=if [48,120].isPrefixOf s then s.drop 2 else s
theorem zG (s:Bytes) (h64:s.length≤64) (h1:(s==[110,97,110])=false) (h2:(s==[105,110,102])=false) (h3:(s==[45,105,110,102])=false) :
  bD s=match pU ([48,120].isPrefixOf (minus s)) (rV (minus s)) with
   | .ok b=>.ok (if [45].isPrefixOf s then 9223372036854775808+b else b)
   | .error e=>.error e:=by
 unfold bD;rw[if_neg (by omega)];simp only[h1,h2,h3,Bool.false_eq_true,if_false];split
 ·rename_i d;have e1:minus (48::120::d)=48::120::d:=rfl;have e2:[48,120].isPrefixOf (48::120::d:Bytes)=true:=by simp[List.isPrefixOf]
  have e3:rV (48::120::d)=d:=rfl;have e4:[45].isPrefixOf (48::120::d:Bytes)=false:=rfl;rw[e1,e2,e3,yw,e4];cases jR d<;>rfl
 ·rename_i d;have e1:minus (45::48::120::d)=48::120::d:=rfl;have e2:[48,120].isPrefixOf (48::120::d:Bytes)=true:=by simp[List.isPrefixOf]
  have e3:rV (48::120::d)=d:=rfl;have e4:[45].isPrefixOf (45::48::120::d:Bytes)=true:=rfl;rw[e1,e2,e3,yw,e4];cases jR d<;>rfl
 ·rename_i n1 n2
  have e2:[48,120].isPrefixOf (minus s)=false:=by
   rw[Bool.eq_false_iff];intro h;obtain⟨t,ht⟩:=List.isPrefixOf_iff_prefix.1 h
   unfold minus at ht;split at ht
   ·rename_i hp;obtain⟨u,rfl⟩:=List.isPrefixOf_iff_prefix.1 hp
    simp at ht;exact n2 t (by rw[←ht];rfl)
   ·exact n1 t ht.symm
  rw[e2,EG]
theorem qP (p:UInt8→Bool):∀s:Bytes,run p s≤s.length
 | []=>by simp[run]
 | c::s=>by
  have:=qP p s
  simp only[run];split<;>simp<;>omega
theorem Cz (s:Bytes):1≤bW s:=by
 unfold bW;simp only;split
 ·split
  ·split<;>omega
  ·omega
 ·omega
theorem EH (s:Bytes) (h:2≤s.length):bW s≤s.length:=by
 have h1:=qP (fun c=>lM c||c==46) (s.drop 2);unfold bW;simp only;generalize run (fun c=>lM c||c==46) (s.drop 2)=R at *;have h1':R≤s.length-2:=by simpa using h1
 split
 ·rename_i r he;have h2:=congrArg List.length he;simp at h2;split
  ·rename_i c r';have h4:=qP digit r';have h3:=qP digit (c::r');simp at h2 h3;split
   ·omega
   ·omega
  ·simp at h2;omega
 ·omega
theorem CB:∀(m:Nat) (s:Bytes),s.length≤m→∀(b:Bytes) (n:Nat) (t:Tok) (k:Nat),aS s b n=.ok (t,k)→n+1≤k∧k≤n+s.length:=by
 intro m
 induction m with
 | zero =>
  intro s hs b n t k h;obtain rfl:=List.eq_nil_of_length_eq_zero (by omega:s.length=0);rw[aS.eq_def]at h;cases h
 | succ m ih =>
  intro s hs b n t k h;cases s with
  | nil=>rw[aS.eq_def]at h;cases h
  | cons c s =>
   simp only[List.length_cons]at hs ⊢;rw[aS.eq_def]at h
   simp only at h;split at h
   ·cases h;omega
   split at h
   ·have:=ih s (by omega) _ _ _ _ h;omega
   split at h
   ·cases h
   split at h
   ·cases h
   ·rename_i d s';simp only[List.length_cons]at hs ⊢;split at h
    ·have:=ih s' (by omega) _ _ _ _ h;omega
    split at h
    ·have:=ih s' (by omega) _ _ _ _ h;omega
    split at h
    ·rename_i x y s'';simp only[List.length_cons]at hs ⊢;split at h
     ·have:=ih s'' (by omega) _ _ _ _ h;omega
     ·cases h
    ·cases h
theorem Mw:∀m∈marks,1≤m.length:=by decide
theorem yx (s:Bytes) (t:Tok) (k:Nat) (h:bM s=.ok (t,k)):1≤k∧k≤s.length:=by
 cases s with
 | nil=>cases h
 | cons c r =>
  simp only[bM]at h;split at h
  ·rename_i hl;have h1:1≤run (fun c=>lower c||digit c) (c::r):=by simp[run,hl]
   have h2:=qP (fun c=>lower c||digit c) (c::r);unfold gq at h;simp only at h
   repeat' split at h
   all_goals first|(cases h;done)|(cases h;exact⟨h1,h2⟩)
  split at h
  ·rename_i hx
   have h2:2≤(c::r).length:=by
    have:=(List.isPrefixOf_iff_prefix.1 hx).length_le
    simpa using this
   unfold aP at h;split at h
   ·cases h;exact⟨Cz _,EH _ h2⟩
   ·cases h
  split at h
  ·rename_i hd;unfold jD at h;split at h
   ·cases h;exact⟨by simp[run,hd],qP _ _⟩
   ·cases h
  split at h
  ·have:=CB r.length r (Nat.le_refl _) _ _ _ _ h
   simp;omega
  ·unfold jv at h;split at h
   ·rename_i m hm;cases h;have h1:=List.mem_of_find?_eq_some hm;have h2:=List.find?_some hm;exact⟨Mw m h1,(List.isPrefixOf_iff_prefix.1 h2).length_le⟩
   ·cases h
theorem CF:∀(m:Nat) (s:Bytes),s.length≤m→∀(b:Bytes) (n:Nat) (e:Int),aS s b n=.error e→e=61:=by
 intro m
 induction m with
 | zero =>
  intro s hs b n e h;obtain rfl:=List.eq_nil_of_length_eq_zero (by omega:s.length=0);rw[aS.eq_def]at h;cases h;rfl
 | succ m ih =>
  intro s hs b n e h;cases s with
  | nil=>rw[aS.eq_def]at h;cases h;rfl
  | cons c s =>
   simp only[List.length_cons]at hs;rw[aS.eq_def]at h
   simp only at h;split at h
   ·cases h
   split at h
   ·exact ih s (by omega) _ _ _ h
   split at h
   ·cases h;rfl
   split at h
   ·cases h;rfl
   ·rename_i d s';simp only[List.length_cons]at hs;split at h
    ·exact ih s' (by omega) _ _ _ h
    split at h
    ·exact ih s' (by omega) _ _ _ h
    split at h
    ·rename_i x y s'';simp only[List.length_cons]at hs;split at h
     ·exact ih s'' (by omega) _ _ _ h
     ·cases h;rfl
    ·cases h;rfl
theorem yA (s:Bytes) (e:Int) (h:bM s=.error e):60≤e∧e≤63:=by
 cases s with
 | nil=>cases h;omega
 | cons c r =>
  simp only[bM]at h;split at h
  ·unfold gq at h;simp only at h
   repeat' split at h
   all_goals first|(cases h;done)|(cases h;omega)
  split at h
  ·unfold aP at h;split at h
   ·cases h
   ·cases h;omega
  split at h
  ·unfold jD at h;split at h
   ·cases h
   ·cases h;omega
  split at h
  ·have:=CF r.length r (Nat.le_refl _) _ _ _ h;omega
  ·unfold jv at h;split at h
   ·cases h
   ·cases h;omega
def items (r:List Tok × dS):List (Tok × dS):=r.1.map (fun t=>(t,⟨0,0⟩))++if r.2.code==0 then[] else[(⟨0,0,[],0,0⟩,r.2)]
theorem Jj (t:Tok) (r:List Tok × dS):items (t::r.1,r.2)=(t,⟨0,0⟩)::items r:=rfl
theorem pF (f:Nat) (a:Nat):lexFrom (f+1) [] a=([⟨7,a,[],0,0⟩],⟨0,0⟩):=rfl
theorem tT (f:Nat) (c:UInt8) (s:Bytes) (a:Nat) (h:(c==32||c==9||c==10)=true):lexFrom (f+1) (c::s) a=lexFrom f s (a+1):=by
 simp only[lexFrom,h,if_true]
theorem rW (f:Nat) (c:UInt8) (s:Bytes) (a:Nat) (h:(c==35)=true):lexFrom (f+1) (c::s) a=lexFrom f ((c::s).drop (run (fun d=>d != 10) (c::s))) (a+run (fun d=>d != 10) (c::s)):=by
 obtain rfl:=beq_iff_eq.1 h;rfl
theorem yB (f:Nat) (c:UInt8) (s:Bytes) (a:Nat) (h:(c==32||c==9||c==10)=false) (h':(c==35)=false) (e:Int) (hn:bM (c::s)=.error e):lexFrom (f+1) (c::s) a=([],⟨e,a⟩):=by
 simp only[lexFrom,h,h',hn];rfl
theorem rX (f:Nat) (c:UInt8) (s:Bytes) (a:Nat) (h:(c==32||c==9||c==10)=false) (h':(c==35)=false) (t:Tok) (k:Nat) (hn:bM (c::s)=.ok (t,k)) :
  lexFrom (f+1) (c::s) a=({ t with at':=(a:Int) }::(lexFrom f ((c::s).drop k) (a+k)).1,(lexFrom f ((c::s).drop k) (a+k)).2):=by
 simp only[lexFrom,h,h',hn];rfl
theorem Gl:∀(f:Nat) (s:Bytes) (a:Nat),(lexFrom f s a).2.code=0→(lexFrom f s a).2=⟨0,0⟩:=by
 intro f
 induction f with
 | zero=>intro s a h;cases h
 | succ f ih =>
  intro s a h;cases s with
  | nil=>rfl
  | cons c s =>
   simp only[lexFrom]at h ⊢;split
   ·rename_i h1;simp only[h1,if_true]at h;exact ih _ _ h
   rename_i h1;rw[if_neg h1]at h
   split
   ·rename_i h2;rw[if_pos h2]at h;exact ih _ _ h
   rename_i h2;rw[if_neg h2]at h
   cases hn:bM (c::s) with
   | error e =>
    rw[hn]at h
    have:=yA _ _ hn
    simp only at h;omega
   | ok p =>
    rw[hn]at h
    obtain⟨t,k⟩:=p
    exact ih _ _ h
theorem Jk (s:Bytes) (h:(aM s).2.code=0):(aM s).2=⟨0,0⟩:=by
 unfold aM at h ⊢;split
 ·rename_i h1;rw[if_pos h1]at h;cases h
 ·rename_i h1;rw[if_neg h1]at h;exact Gl _ _ _ h
theorem zH:∀(ts:List Tok) (f:dS) (pre rest:List (Tok × dS)) (x:Tok × dS),pre++x::rest=items (ts,f)→(∀y∈pre,y.2.code=0)→x.2.code≠0→pre.map Prod.fst=ts∧x.2=f:=by
 intro ts
 induction ts with
 | nil =>
  intro f pre rest x he hp hx;simp only[items,List.map_nil,List.nil_append]at he;split at he
  ·exact absurd he (by simp)
  ·cases pre with
   | nil=>simp at he;exact⟨rfl,by rw[he.1]⟩
   | cons y pre=>simp at he
 | cons t ts ih =>
  intro f pre rest x he hp hx;have h1:items (t::ts,f)=(t,⟨0,0⟩)::items (ts,f):=rfl;rw[h1]at he
  cases pre with
  | nil=>simp at he;rw[he.1]at hx;exact absurd rfl hx
  | cons y pre =>
   simp only[List.cons_append,List.cons.injEq]at he;obtain⟨e1,e2⟩:=ih f pre rest x he.2 (fun y hy=>hp y (by simp[hy])) hx
   exact⟨by simp[he.1,e1],e2⟩
theorem zI (ts:List Tok) (f:dS) (h:∀y∈items (ts,f),y.2.code=0):f.code=0∧(items (ts,f)).map Prod.fst=ts:=by
 have h0:f.code=0:=by
  by_cases hf:f.code=0
  ·exact hf
  ·have:=h (⟨0,0,[],0,0⟩,f) (by simp[items,hf])
   exact this
 refine⟨h0,?_⟩;simp[items,h0,Function.comp_def]
end Ck
end
