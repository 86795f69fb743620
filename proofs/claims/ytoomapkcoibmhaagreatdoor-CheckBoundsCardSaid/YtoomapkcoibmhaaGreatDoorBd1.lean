/- A part of the proof. -/
import Derived.Test.YtoomapkcoibmhaaGreatDoorQ6
import Derived.Test.YtoomapkcoibmhaaGreatDoorQ46
set_option maxRecDepth 100000
set_option maxHeartbeats 12800000
set_option linter.all false
section
namespace Ck
def acX:Nat→Nat→Bytes
 | 0,_=>[]
 | f+1,n=>if n==0 then[]else acX f (n/10)++[UInt8.ofNat (48+n%10)]
def dig (n:Nat):Bytes:=if n==0 then[48]else acX 5 n
def upL (f:Nat→Bytes):Nat→Bytes
 | 0=>[]
 | n+1=>upL f n++f n
def bFn:Bytes:=[102,110,32,102,40,41,32,123,32]
def bt1 (n:Nat):Bytes:=bFn++upL (fun i=>[111,117,116,32]++dig i++[59,32]) n++[125]
def bt2 (n:Nat):Bytes:=bFn++upL (fun i=>[108,101,116,32,118]++dig i++[32,61,32,110,105,108,59,32]) n++[125]
def bt3 (n:Nat):Bytes:=bFn++[119,104,105,108,101,32,116,114,117,101,32,123,32]++xZ (n*15) [98,114,101,97,107,59,32]++[125,32,125]
def bt4 (n:Nat):Bytes:=[102,110,32,102,40]++upL (fun i=>(if i==0 then[] else[44,32])++[112]++dig i) n++[41,32,123,32,125]
def bt5 (n:Nat):Bytes:=bFn++[111,117,116,32]++xZ (4*n) [110,111,116,32]++[116,114,117,101,59,32,125]
def aae (n:Nat):Bool :=
 (let f:=(kU (bt1 n)).2;if n≤64 then f.code==0 else f==⟨84,3⟩) &&
 (if n≤64 then(match yg (bt2 n) with|some T=>bC T false==⟨0,0⟩&&regs T [102]==n|none=>false) else(kU (bt2 n)).2.code==83) &&
 (let f:=(kU (bt4 n)).2;if n≤16 then f.code==0 else f.code==81) &&
 (let f:=(kU (bt5 n)).2;if n≤63 then f.code==0 else f.code==71)
end Ck
end
section
open Go Go.Proofs Go.RowKit Go.Shelf Go.Lib Ck
namespace Go.Proofs.YtoomapkcoibmhaaGreatDoor
attribute [local go_sem] Oper.semAt_some
theorem afL (b:UInt8) (y:Bytes):(⟨(b::y).toArray⟩:ByteArray)=⟨[b].toArray⟩++⟨y.toArray⟩:=by rw[D8];rfl
theorem afM (n:Nat) (hn:n≤99) (w:World) :
  Calls Tryz.prog 7 #[.int .i64 n] w fun e w'=>e=.returned (.string ⟨(dig n).toArray⟩)∧Fr [] w w':=by
 go_enter Tryz.func7,Tryz.ntmps7;by_cases h0:n=0
 ·subst h0;go_wp2;go_ret;exact⟨rfl,Fr.refl _ _⟩
 have hd:dig n=acX 5 n:=by unfold dig;rw[if_neg (by simpa using h0)]
 rw[hd];clear hd;have hn0:((n:Int)==0)=false:=by rw[beq_eq_false_iff_ne];omega
 go_wp2
 go_loopw [0,3] (fun a t wr=>∃(r f:Nat) (y:Bytes),a=.int .i64 r∧t=.string ⟨y.toArray⟩∧(f=5∧r≤99∨f=4∧r≤9∨f=3∧r=0)∧Hid (acX f r++y=acX 5 n)∧y.length+f=5∧Hid (Fr [] w wr)) (fun a _ _=>(intOf a).toNat)
 case atStart=>exact⟨n,5,[],rfl,rfl,.inl ⟨rfl,hn⟩,Lib.hid (by simp),rfl,Lib.hid (Fr.refl _ _)⟩
 case round =>
  obtain⟨r,f,y,rfl,rfl,hf,hy,hyl,hfr⟩:=hrel
  by_cases hr:0<r
  ·have Us:(0:Int)<r:=by omega
   have ajV:(r:Int)≤99:=by omega
   have hrm:IntKind.u8.wrap (48+(r:Int)%10)=48+(r:Int)%10:=by rw[IntKind.wrap_u8];omega
   obtain⟨b,hb⟩:∃b:UInt8,b=UInt8.ofNat (48+r%10):=⟨_,rfl⟩
   have hbn:(48+(r:Int)%10)=(b.toNat:Int):=by
    rw[hb,UInt8.toNat_ofNat'];omega
   have hown:(wr.alloc (.cells #[.int .u8 (48+(r:Int)%10)] 5)).ownsRow wr.heap.size 5 1 (.slice (some ⟨wr.heap.size,0,none⟩) 1 1) 1 (dJ [b]):=⟨rfl,.inr ⟨wr.heap.size,1,#[.int .u8 (48+(r:Int)%10)],rfl,Nat.le_refl _,World.alloc_heap_new wr _,Nat.le_refl _,by simp[maxLen],rfl,by simp[dJ,hbn]⟩⟩
   have OC:(convert 42 9 (.slice (some ⟨wr.heap.size,0,none⟩) 1 1)).run Tryz.prog (wr.alloc (.cells #[.int .u8 (48+(r:Int)%10)] 5))=.ok (.string ⟨[b].toArray⟩) (wr.alloc (.cells #[.int .u8 (48+(r:Int)%10)] 5)):=qR Tryz.underlying42 Tryz.underlying5 Tryz.underlying9 hown;have HBN:=Lib.hid hb;clear hown hb hbn;go_wp2;refine⟨⟨r/10,f-1,b::y,by go_num,congrArg Value.string (afL b y).symm,by omega,Lib.hid ?_,by simp;omega,Lib.hid (hfr.out.alloc _)⟩,by simp[intOf];omega⟩;obtain⟨f',rfl⟩:∃f',f=f'+1:=⟨f-1,by omega⟩
   have h1:=hy.out;rw[acX,if_neg (by simp;omega),←HBN.out,List.append_assoc]at h1
   exact h1
  ·obtain rfl:r=0:=by omega
   go_wp2;go_ret;obtain⟨f',rfl⟩:∃f',f=f'+1:=⟨f-1,by omega⟩
   have h1:=hy.out;rw[acX,if_pos (by rfl),List.nil_append]at h1
   rw[h1];exact⟨rfl,hfr.out⟩
end Go.Proofs.YtoomapkcoibmhaaGreatDoor
end
section
namespace Ck
def brk:Bytes:=[98,114,101,97,107,59,32]
def bWh:Bytes:=[119,104,105,108,101,32,116,114,117,101,32,123,32]
def tFn:List Tok:=[⟨2,0,[102,110],0,0⟩,⟨1,3,[102],0,0⟩,⟨3,4,[40],0,0⟩,⟨3,5,[41],0,0⟩,⟨3,7,[123],0,0⟩,⟨2,9,[119,104,105,108,101],0,0⟩,⟨2,15,[116,114,117,101],0,0⟩,⟨3,20,[123],0,0⟩]
def aaV:Nat→Nat→List Tok
 | 0,_=>[]
 | k+1,a=>⟨2,a,[98,114,101,97,107],0,0⟩::⟨3,(a+5:Nat),[59],0,0⟩::aaV k (a+7)
def aeu (a:Nat):List Tok:=[⟨3,a,[125],0,0⟩,⟨3,(a+2:Nat),[125],0,0⟩,⟨7,(a+3:Nat),[],0,0⟩]
theorem aev (n:Nat) (b:Bytes):xZ (n+1) b=b++xZ n b:=by
 unfold xZ;rw[List.replicate_succ,List.flatten_cons]
theorem af8 (f:Nat) (q:Bytes):lexFrom (f+14) (bFn++bWh++q) 0=(tFn++(lexFrom f q 22).1,(lexFrom f q 22).2):=by kernel_rfl
theorem afN (f:Nat) (q:Bytes) (a:Nat):lexFrom (f+3) (brk++q) a=(⟨2,a,[98,114,101,97,107],0,0⟩::⟨3,(a+5:Nat),[59],0,0⟩::(lexFrom f q (a+7)).1,(lexFrom f q (a+7)).2):=by kernel_rfl
theorem afO (f:Nat) (a:Nat):lexFrom (f+4) [125,32,125] a=(aeu a,⟨0,0⟩):=by kernel_rfl
theorem adf:∀(k f:Nat) (q:Bytes) (a:Nat),lexFrom (f+3*k) (xZ k brk++q) a=(aaV k a++(lexFrom f q (a+7*k)).1,(lexFrom f q (a+7*k)).2)
 | 0,f,q,a=>rfl
 | k+1,f,q,a=>by
  rw[aev,List.append_assoc,show f+3*(k+1)=f+3*k+3 by omega,afN,adf k,show a+7+7*k=a+7*(k+1)by omega];rfl
theorem aff (n:Nat):bt3 n=bFn++bWh++(xZ (n*15) brk++[125,32,125]):=by
 unfold bt3;simp only[List.append_assoc];rfl
theorem adg (k:Nat):(xZ k brk).length=7*k:=by rw[IQ];simp[brk];omega
theorem abl (n:Nat):(bt3 n).length=25+105*n:=by
 rw[aff];simp only[List.length_append,adg];simp[bFn,bWh];omega
theorem afP (n:Nat) (hn:n≤70):aM (bt3 n)=(tFn++(aaV (n*15) 22++aeu (22+7*(n*15))),⟨0,0⟩):=by
 have hl:=abl n;unfold aM;rw[if_neg (by omega),aaq _ (100+105*n+4+3*(n*15)+14) _ _ (by omega) (by omega),aff,af8,adf,afO]
def aap:Nat→Nat→List Tree
 | 0,_=>[]
 | k+1,a=>leaf 13 a [] []::aap k (a+7)
theorem abm:∀(k a:Nat) (r:List Tok) (n:Int),iM (aaV k a++r) n=(aaV k a).map (fun t=>(t,n))++iM r n
 | 0,_,_,_=>rfl
 | k+1,a,r,n=>by
  simp only[aaV,List.cons_append,iM,List.map_cons];rw[show opens ⟨2,a,[98,114,101,97,107],0,0⟩=false from rfl,show closes ⟨2,a,[98,114,101,97,107],0,0⟩=false from rfl,show opens ⟨3,(a+5:Nat),[59],0,0⟩=false from rfl,show closes ⟨3,(a+5:Nat),[59],0,0⟩=false from rfl];simp only[Bool.false_eq_true,if_false,abm k]
theorem adO (F:dS) (g n a:Nat) (ks:List Tree) (r:TS) (o:Int):rU F (recs F (g+20)) (n+1) ks ((⟨2,a,[98,114,101,97,107],0,0⟩,o)::(⟨3,(a+5:Nat),[59],0,0⟩,o)::r)=rU F (recs F (g+20)) n (ks++[leaf 13 a [] []]) r:=by kernel_rfl
theorem aa4 (F:dS) (g:Nat) (r:TS) (o:Int):∀(k n a:Nat) (ks:List Tree),rU F (recs F (g+20)) (n+k) ks ((aaV k a).map (fun t=>(t,o))++r)=rU F (recs F (g+20)) n (ks++aap k a) r
 | 0,n,a,ks=>by simp[aaV,aap]
 | k+1,n,a,ks=>by
  rw[show n+(k+1)=n+k+1 by omega];simp only[aaV,List.map_cons,List.cons_append];rw[adO,aa4 F g r o k,aap];simp
theorem afg (F:dS) (r:Rec) (T:TS):iP F r ((⟨2,9,[119,104,105,108,101],0,0⟩,1)::T)=r.loop none ((⟨2,9,[119,104,105,108,101],0,0⟩,1)::T):=by kernel_rfl
theorem afQ (F:dS) (g:Nat) (X:TS):(recs F (g+20)).expr ((⟨2,15,[116,114,117,101],0,0⟩,1)::(⟨3,20,[123],0,0⟩,1)::X)=some (.ok (leaf 29 15 [] [],(⟨3,20,[123],0,0⟩,1)::X)):=by kernel_rfl
theorem aew {F:dS} {r:Rec} {X Y:TS} {B:Tree} (he:r.expr ((⟨2,15,[116,114,117,101],0,0⟩,1)::(⟨3,20,[123],0,0⟩,1)::X)=some (.ok (leaf 29 15 [] [],(⟨3,20,[123],0,0⟩,1)::X))) (hb:r.block ((⟨3,20,[123],0,0⟩,1)::X)=some (.ok (B,Y))) :
  zD F r none ((⟨2,9,[119,104,105,108,101],0,0⟩,1)::(⟨2,15,[116,114,117,101],0,0⟩,1)::(⟨3,20,[123],0,0⟩,1)::X)=some (.ok (leaf 10 9 [] [leaf 29 15 [] [],B],Y)):=by
 have h1:zD F r none ((⟨2,9,[119,104,105,108,101],0,0⟩,1)::(⟨2,15,[116,114,117,101],0,0⟩,1)::(⟨3,20,[123],0,0⟩,1)::X)=P.bind r.expr (fun e=>P.bind r.block (fun b=>P.pure (leaf 10 9 [] [e,b]))) ((⟨2,15,[116,114,117,101],0,0⟩,1)::(⟨3,20,[123],0,0⟩,1)::X):=by kernel_rfl
 rw[h1,P.bind,he];simp only;rw[P.bind,hb];rfl
theorem aex {F:dS} {r:Rec} {n:Nat} {T Z:TS} {W:Tree} {a:Nat} (hs:r.statement ((⟨2,9,[119,104,105,108,101],0,0⟩,1)::T)=some (.ok (W,(⟨3,a,[125],0,0⟩,1)::Z))) :
  uI F r (n+2) ((⟨3,7,[123],0,0⟩,0)::(⟨2,9,[119,104,105,108,101],0,0⟩,1)::T)=some (.ok (leaf 5 7 [] [W],Z)):=by
 have h1:rU F r (n+2) [] ((⟨2,9,[119,104,105,108,101],0,0⟩,1)::T)=P.bind r.statement (fun s=>rU F r (n+1) [s]) ((⟨2,9,[119,104,105,108,101],0,0⟩,1)::T):=by kernel_rfl
 have h2:uI F r (n+2) ((⟨3,7,[123],0,0⟩,0)::(⟨2,9,[119,104,105,108,101],0,0⟩,1)::T)=P.bind (rU F r (n+2) []) (fun ks=>P.pure (leaf 5 7 [] ks)) ((⟨2,9,[119,104,105,108,101],0,0⟩,1)::T):=by kernel_rfl
 have h3:∀ks,rU F r (n+1) ks ((⟨3,a,[125],0,0⟩,1)::Z)=some (.ok (ks,Z)):=fun ks=>by kernel_rfl
 rw[h2,P.bind,h1,P.bind,hs];simp only;rw[h3];rfl
theorem afR {F:dS} {r:Rec} {n:Nat} {T Z:TS} {B:Tree} (hb:r.block T=some (.ok (B,Z))) :
  iD F r n ((⟨1,3,[102],0,0⟩,0)::(⟨3,4,[40],0,0⟩,0)::(⟨3,5,[41],0,0⟩,1)::T)=some (.ok (leaf 3 3 [102] [B],Z)):=by
 have h1:iD F r n ((⟨1,3,[102],0,0⟩,0)::(⟨3,4,[40],0,0⟩,0)::(⟨3,5,[41],0,0⟩,1)::T)=P.bind r.block (fun b=>P.pure (leaf 3 3 [102] [b])) T:=by kernel_rfl
 rw[h1,P.bind,hb];rfl
theorem afh {F:dS} {r:Rec} {q n:Nat} {T:TS} {B:Tree} {a:Nat} (hb:iD F r q T=some (.ok (B,[(⟨7,a,[],0,0⟩,0)]))) :
  jT F r q (n+2) [] ((⟨2,0,[102,110],0,0⟩,0)::T)=some (.ok ([B],[(⟨7,a,[],0,0⟩,0)])):=by
 have h1:jT F r q (n+2) [] ((⟨2,0,[102,110],0,0⟩,0)::T)=P.bind (iD F r q) (fun f=>jT F r q (n+1) [f]) T:=by kernel_rfl
 rw[h1,P.bind,hb];rfl
def fn3 (k:Nat):Tree:=leaf 3 3 [102] [leaf 5 7 [] [leaf 10 9 [] [leaf 29 15 [] [],leaf 5 20 [] (aap k 22)]]]
def aaA (k:Nat):Tree:=leaf 1 0 [] [fn3 k]
theorem af9 (n:Nat) (hn:n≤70):∃r,fU (aM (bt3 n)).2 (fuel (bt3 n)) (iM (aM (bt3 n)).1 0)=some (.ok (aaA (n*15),r)):=by
 have hl:=afP n hn;obtain⟨k,hk⟩:∃k,n*15=k:=⟨_,rfl⟩
 rw[hk]at hl ⊢
 have hlen:∀k a,(aaV k a).length=2*k:=by
  intro k
  induction k with
  | zero=>intro a;rfl
  | succ k ih=>intro a;simp only[aaV,List.length_cons,ih];omega
 obtain⟨g,hg⟩:∃g,fuel (bt3 n)=g+50+k:=⟨fuel (bt3 n)-50-k,by
  unfold fuel;rw[hl];simp only[List.length_append,hlen];simp[tFn,aeu];omega⟩
 rw[hg,hl];have ha:iM (tFn++(aaV k 22++aeu (22+7*k))) 0=(⟨2,0,[102,110],0,0⟩,0)::(⟨1,3,[102],0,0⟩,0)::(⟨3,4,[40],0,0⟩,0)::(⟨3,5,[41],0,0⟩,1)::(⟨3,7,[123],0,0⟩,0)::(⟨2,9,[119,104,105,108,101],0,0⟩,1)::(⟨2,15,[116,114,117,101],0,0⟩,1)::(⟨3,20,[123],0,0⟩,1)::iM (aaV k 22++aeu (22+7*k)) 2:=rfl;have he:iM (aeu (22+7*k)) 2=[(⟨3,(22+7*k:Nat),[125],0,0⟩,2),(⟨3,(22+7*k+2:Nat),[125],0,0⟩,1),(⟨7,(22+7*k+3:Nat),[],0,0⟩,0)]:=rfl;rw[ha,abm,he];generalize hX:(aaV k 22).map (fun t=>(t,(2:Int)))++[(⟨3,(22+7*k:Nat),[125],0,0⟩,2),(⟨3,(22+7*k+2:Nat),[125],0,0⟩,1),(⟨7,(22+7*k+3:Nat),[],0,0⟩,0)]=X
 have hin:∀g',uI ⟨0,0⟩ (recs ⟨0,0⟩ (g'+20)) (g'+20) ((⟨3,20,[123],0,0⟩,1)::X)=some (.ok (leaf 5 20 [] (aap k 22),[(⟨3,(22+7*k+2:Nat),[125],0,0⟩,1),(⟨7,(22+7*k+3:Nat),[],0,0⟩,0)]))∨g'<k:=by
  intro g';rcases Nat.lt_or_ge g' k with h|h
  ·exact .inr h
  refine .inl ?_;have h1:uI ⟨0,0⟩ (recs ⟨0,0⟩ (g'+20)) (g'+20) ((⟨3,20,[123],0,0⟩,1)::X)=P.bind (rU ⟨0,0⟩ (recs ⟨0,0⟩ (g'+20)) (g'+20) []) (fun ks=>P.pure (leaf 5 20 [] ks)) X:=by kernel_rfl
  obtain⟨d,rfl⟩:∃d,g'=d+k:=⟨g'-k,by omega⟩
  have h2:=aa4 ⟨0,0⟩ (d+k) [(⟨3,(22+7*k:Nat),[125],0,0⟩,2),(⟨3,(22+7*k+2:Nat),[125],0,0⟩,1),(⟨7,(22+7*k+3:Nat),[],0,0⟩,0)] 2 k (d+20) 22 [];rw[hX,show d+20+k=d+k+20 by omega]at h2
  rw[h1,P.bind,h2];rfl
 obtain⟨h,hh⟩:∃h,g+50+k=h+24:=⟨g+26+k,by omega⟩
 have hin:=(hin h).resolve_right (by omega);rw[hh]
 have hlp:(recs ⟨0,0⟩ (h+22)).loop none ((⟨2,9,[119,104,105,108,101],0,0⟩,1)::(⟨2,15,[116,114,117,101],0,0⟩,1)::(⟨3,20,[123],0,0⟩,1)::X)=some (.ok (leaf 10 9 [] [leaf 29 15 [] [],leaf 5 20 [] (aap k 22)],[(⟨3,(22+7*k+2:Nat),[125],0,0⟩,1),(⟨7,(22+7*k+3:Nat),[],0,0⟩,0)])) :=
  aew (r:=recs ⟨0,0⟩ (h+21)) (afQ _ (h+1) X) hin
 have hst:(recs ⟨0,0⟩ (h+23)).statement ((⟨2,9,[119,104,105,108,101],0,0⟩,1)::(⟨2,15,[116,114,117,101],0,0⟩,1)::(⟨3,20,[123],0,0⟩,1)::X)=some (.ok (leaf 10 9 [] [leaf 29 15 [] [],leaf 5 20 [] (aap k 22)],[(⟨3,(22+7*k+2:Nat),[125],0,0⟩,1),(⟨7,(22+7*k+3:Nat),[],0,0⟩,0)])) :=
  (afg ⟨0,0⟩ (recs ⟨0,0⟩ (h+22)) _).trans hlp
 have hbl:=aex (F:=⟨0,0⟩) (r:=recs ⟨0,0⟩ (h+23)) (n:=h+21) hst;have hfn:=afR (F:=⟨0,0⟩) (r:=recs ⟨0,0⟩ (h+24)) (n:=h+24) hbl;have hpr:=afh (n:=h+22) hfn;refine⟨[(⟨7,(22+7*k+3:Nat),[],0,0⟩,0)],?_⟩;unfold fU;rw[bind_eq,P.bind,hpr];rfl
theorem adh (E:Env) (d:Nat) (s:CS) (h:s.loops.isEmpty=false) (hd:d≤256):∀(k a j:Nat),gu E (aap k a) d j s=.ok s
 | 0,_,_=>rfl
 | k+1,a,j=>by
  rw[aap,gu]
  have h1:jg E (leaf 13 a [] []) d j s=.ok s:=by
   unfold leaf;rw[jg]
   have:decide (256<d)=false:=by simpa using hd
   simp only[this,h,need];rfl
  rw[h1];exact adh E d s h hd k _ _
theorem abp (m:List Node):∀k a,unlike (rows (aap k a)) m=m
 | 0,_=>rfl
 | k+1,a=>by
  rw[aap,rows];exact abp m k _
theorem abq:∀k a h m,mD (aap k a) h m≤max m h
 | 0,_,h,m=>by unfold aap mD;omega
 | k+1,a,h,m=>by
  rw[aap,mD];have e:(leaf 13 a [] []).height h=h:=by unfold leaf Tree.height;simp[fE]
  rw[e]
  have:=abq k (a+7) (if (leaf 13 (a:Nat) [] []).n.kind==6 then h+1 else h) (max m h)
  have e2:(if (leaf 13 (a:Nat) [] []).n.kind==6 then h+1 else h)=h:=rfl;rw[e2]at this ⊢
  omega
theorem acJ:∀k a,sizes (aap k a)=k
 | 0,_=>rfl
 | k+1,a=>by
  rw[aap,sizes,acJ k];have e:(leaf 13 (a:Nat) [] []).size=1:=rfl;omega
theorem aga (k:Nat):bC (aaA k) false=if 1000<k+3 then⟨85,9⟩ else⟨0,0⟩:=by
 have hsz:(Tree.mk ⟨10,9,0,[],0,0⟩ [leaf 29 15 [] [],leaf 5 20 [] (aap k 22)]).size=k+3:=by
  have Wy:(leaf 29 15 [] []).size=1:=rfl;have h5:(leaf 5 20 [] (aap k 22)).size=sizes (aap k 22)+1:=rfl;simp only[Tree.size,sizes,Wy,h5,acJ];omega
 have hcs:constants (fn3 k)=0:=by
  have:unlike (fn3 k).row []=unlike (rows (aap k 22)++[]) []:=by
   unfold fn3 leaf;simp only[Tree.row,rows,List.append_nil];rfl
  unfold constants;rw[this,List.append_nil,abp];rfl
 have hrg:registers (fn3 k)≤64:=by
  have hb:=abq k 22 0 0;have e:registers (fn3 k)=max 0 (max 0 (max 0 (max (max 1 0) (max (mD (aap k 22) 0 0) 0)))):=by kernel_rfl
  rw[e];omega
 have hEf:(Dy (aaA k) false).free=false:=rfl
 have hw:jg (Dy (aaA k) false) (leaf 10 9 [] [leaf 29 15 [] [],leaf 5 20 [] (aap k 22)]) 3 0 ⟨[[],[]],[],[[102]]⟩=if 1000<k+3 then .error ⟨85,9⟩else .ok ⟨[[],[]],[],[[102]]⟩:=by
  unfold leaf at hsz ⊢;rw[jg,hsz];have hb:=adh (Dy (aaA k) false) 5 ⟨[[],[],[]],[[]],[[102]]⟩ rfl (by decide) k 22 0;by_cases hk:1000<k+3
  ·rw[if_pos hk,show decide (1000<k+3)=true from decide_eq_true hk];rfl
  ·rw[if_neg hk,show decide (1000<k+3)=false from decide_eq_false hk]
   have h5:jg (Dy (aaA k) false) (.mk ⟨5,20,0,[],0,0⟩ (aap k 22)) 4 1 ⟨[[],[]],[[]],[[102]]⟩=.ok ⟨[[],[]],[[]],[[102]]⟩:=by
    rw[jg];show(gu (Dy (aaA k) false) (aap k 22) 5 0 ⟨[[],[],[]],[[]],[[102]]⟩ >>= _)=_
    rw[hb];rfl
   show yX (Dy (aaA k) false) [.mk ⟨29,15,0,[],0,0⟩ [],.mk ⟨5,20,0,[],0,0⟩ (aap k 22)] 4 [] ⟨[[],[]],[],[[102]]⟩=_
   have Wy:jg (Dy (aaA k) false) (.mk ⟨29,15,0,[],0,0⟩ []) 4 0 ⟨[[],[]],[],[[102]]⟩=.ok ⟨[[],[]],[],[[102]]⟩:=by
    generalize Dy (aaA k) false=E;rfl
   rw[yX,Wy]
   have hcs2:gu (Dy (aaA k) false) [.mk ⟨5,20,0,[],0,0⟩ (aap k 22)] 4 1 ⟨[[],[]],[[]],[[102]]⟩=.ok ⟨[[],[]],[[]],[[102]]⟩:=by
    rw[gu,h5];rfl
   show(gu (Dy (aaA k) false) _ 4 1 ⟨[[],[]],[[]],[[102]]⟩ >>= _)=_
   rw[hcs2];rfl
 have hf:jg (Dy (aaA k) false) (fn3 k) 1 0 ⟨[],[],[]⟩=if 1000<k+3 then .error ⟨85,9⟩else .ok ⟨[],[],[[102]]⟩:=by
  have hfn:fn3 k=.mk ⟨3,3,0,[102],0,0⟩ [leaf 5 7 [] [leaf 10 9 [] [leaf 29 15 [] [],leaf 5 20 [] (aap k 22)]]]:=rfl;rw[hfn]at hcs hrg ⊢
  rw[jg,hcs,hEf,show decide (64<registers (.mk ⟨3,3,0,[102],0,0⟩ [leaf 5 7 [] [leaf 10 9 [] [leaf 29 15 [] [],leaf 5 20 [] (aap k 22)]]]))=false from decide_eq_false (by omega)];show(gu _ _ 2 0 _ >>= _)=_
  rw[gu]
  have h5:jg (Dy (aaA k) false) (leaf 5 7 [] [leaf 10 9 [] [leaf 29 15 [] [],leaf 5 20 [] (aap k 22)]]) 2 0 ⟨[[]],[],[[102]]⟩=if 1000<k+3 then .error ⟨85,9⟩else .ok ⟨[[]],[],[[102]]⟩:=by
   rw[leaf,jg];show(gu (Dy (aaA k) false) _ 3 0 ⟨[[],[]],[],[[102]]⟩ >>= _)=_
   rw[gu,hw];by_cases hk:1000<k+3
   ·rw[if_pos hk,if_pos hk];rfl
   ·rw[if_neg hk,if_neg hk];rfl
  have h5':jg (Dy (aaA k) false) (leaf 5 7 [] [leaf 10 9 [] [leaf 29 15 [] [],leaf 5 20 [] (aap k 22)]]) (1+1) 0 ⟨[[]],[],[[102]]⟩=if 1000<k+3 then .error ⟨85,9⟩else .ok ⟨[[]],[],[[102]]⟩:=h5
  by_cases hk:1000<k+3
  ·rw[if_pos hk]at h5 ⊢;rw[h5];rfl
  ·rw[if_neg hk]at h5 ⊢;rw[h5];rfl
 unfold bC
 have ht:jg (Dy (aaA k) false) (aaA k) 0 0 ⟨[],[],[]⟩=if 1000<k+3 then .error ⟨85,9⟩else .ok ⟨[],[],[[102]]⟩:=by
  have:jg (Dy (aaA k) false) (aaA k) 0 0 ⟨[],[],[]⟩=(jg (Dy (aaA k) false) (fn3 k) 1 0 ⟨[],[],[]⟩ >>= fun s=>.ok s):=by
   generalize Dy (aaA k) false=E;unfold aaA leaf;rfl
  rw[this,hf];by_cases hk:1000<k+3
  ·rw[if_pos hk];rfl
  ·rw[if_neg hk];rfl
 rw[ht];by_cases hk:1000<k+3
 ·rw[if_pos hk,if_pos hk]
 ·rw[if_neg hk,if_neg hk]
theorem agb (n:Nat) (hn:n≤70):(kU (bt3 n)).2=if 1000<n*15+3 then⟨85,9⟩ else⟨0,0⟩:=by
 obtain⟨r,hp⟩:=af9 n hn
 unfold kU;rw[hp];simp only[aga];by_cases hk:1000<n*15+3
 ·simp only[if_pos hk];rfl
 ·simp only[if_neg hk];rfl
end Ck
end
