/- A part of the proof. -/
import Derived.Lib.ParseIntB
import Derived.Deep.DeepCutAuto
import Derived.Test.YtoomapkcoibmhaaGreatDoorQ8
set_option maxRecDepth 100000
set_option maxHeartbeats 12800000
set_option linter.all false
section
open Go Go.Proofs Go.RowKit Ck
namespace Ck
theorem NY (l:Bytes):∀a:Nat,l.foldl (fun a c=>a*10+(c.toNat-48)) a=a*10 ^ l.length+dval l:=by
 induction l with
 | nil=>intro a;simp[dval]
 | cons c l ih =>
  intro a;simp only[List.foldl_cons,dval,List.length_cons];rw[ih,ih (0*10+(c.toNat-48)),Nat.pow_succ];have e:a*10*10 ^ l.length=a*(10 ^ l.length*10):=by rw[Nat.mul_assoc,Nat.mul_comm 10]
  simp only[Nat.zero_mul,Nat.zero_add];rw[Nat.add_mul,e];omega
theorem mo (c:UInt8):digit c=true↔48≤c.toNat∧c.toNat≤57:=by simp[digit]
theorem Cj {M:Nat} (hM:M≤18446744073709551615):∀(l:Bytes) (acc:Nat),l.all digit=true→acc≤M →
  Go.Lib.parseUintM M acc l=if M<l.foldl (fun a c=>a*10+(c.toNat-48)) acc then .range else .ok (l.foldl (fun a c=>a*10+(c.toNat-48)) acc)
 | [],acc,_,ha=>by
  exact(if_neg (Nat.not_lt.2 ha)).symm
 | c::l,acc,hd,ha=>by
  simp only[List.all_cons,Bool.and_eq_true]at hd;have hc:=(mo c).1 hd.1;simp only[Go.Lib.parseUintM,List.foldl_cons];rw[if_pos hc];by_cases hr:M<acc*10+(c.toNat-48)
  ·have hbig:M<l.foldl (fun a c=>a*10+(c.toNat-48)) (acc*10+(c.toNat-48)):=by
    rw[NY];have hp:0<10 ^ l.length:=Nat.pos_of_ne_zero (by simp)
    have:=Nat.le_mul_of_pos_right (acc*10+(c.toNat-48)) hp
    omega
   refine Eq.trans ?_ (if_pos hbig).symm;split
   ·rfl
   ·first|rfl|rw[if_pos hr]
  ·rw[if_neg (by omega),if_neg hr];exact Cj hM l _ hd.2 (by omega)
end Ck
namespace Go.Proofs.YtoomapkcoibmhaaGreatDoor
theorem Cm (s:Bytes) (w:World) (hs:s.length≤140737488351232) :
  Calls Tryz.prog 182 #[.string ⟨s.toArray⟩] w (fun e w'=>e=.returned (.bool (digits s))∧w=w'):=by
 go_enter Tryz.func182,Tryz.ntmps182;go_wp2
 go_loop [6] (fun n=>∃k:Nat,n=.int .i64 k∧k≤s.length∧Hid (s.all digit=(s.drop k).all digit)) (fun n=>s.length-(intOf n).toNat)
 case atStart=>exact⟨0,rfl,by omega,by simp[Hid]⟩
 case round =>
  obtain⟨k,rfl,hk,hr⟩:=hrel
  by_cases hlt:k<s.length
  ·have hd:=List.drop_eq_getElem_cons hlt;by_cases h1:(s[k].toNat:Int)<48
   ·have HF:Hid (digits s=false):=by
     show _=_;unfold digits;rw[hr.out,hd]
     have:digit s[k]=false:=by rw[Bool.eq_false_iff];intro h;have:=(mo _).1 h;omega
     simp only[List.all_cons,this,Bool.false_and]
    clear hd hr;go_wp2;go_ret;exact⟨lD HF.out.symm,rfl⟩
   ·by_cases h2:57<(s[k].toNat:Int)
    ·have HF:Hid (digits s=false):=by
      show _=_;unfold digits;rw[hr.out,hd]
      have:digit s[k]=false:=by rw[Bool.eq_false_iff];intro h;have:=(mo _).1 h;omega
      simp only[List.all_cons,this,Bool.false_and]
     clear hd hr;go_wp2;go_ret;exact⟨lD HF.out.symm,rfl⟩
    ·have HN:Hid (s.all digit=(s.drop (k+1)).all digit):=by
      show _=_;rw[hr.out,hd]
      have:digit s[k]=true:=(mo _).2 (by omega)
      simp only[List.all_cons,this,Bool.true_and]
     clear hd hr;go_wp2;exact⟨⟨k+1,by go_num,by omega,HN⟩,by simp[intOf];omega⟩
  ·have he:s.all digit=true:=by rw[hr.out,List.drop_eq_nil_of_le (by omega)];rfl
   have HF:Hid (digits s = !(s==[])):=by
    show _=_;unfold digits;rw[he];cases s<;>rfl
   clear he hr;go_wp2;go_ret;refine⟨lD ?_,rfl⟩;rw[HF.out]
   first|rfl|simp[bne]
theorem UU (c m:UInt8) (N:Int) (h:N=m.toNat):((c.toNat:Int)==N)=(c==m):=by
 subst h;rw[Bool.eq_iff_iff,beq_iff_eq,beq_iff_eq,←UInt8.toNat_inj];omega
def gD (s:Bytes):Bytes:=if [45].isPrefixOf s then s.drop 1 else s
theorem Gb (s:Bytes) (h64:s.length≤64) (hd:digits (gD s)=true) (h0:((gD s).head? == some 48&&s != [48])=false) :
  (∀v,Lib.parseIntB 64 s=.ok v→bN s=.ok v)∧(Lib.parseIntB 64 s=.range→bN s=.error 13)∧((∃v,Lib.parseIntB 64 s=.ok v)∨Lib.parseIntB 64 s=.range):=by
 have hall:(gD s).all digit=true:=by unfold digits at hd;simp only[Bool.and_eq_true]at hd;exact hd.1
 have hne:gD s≠[]:=by unfold digits at hd;simp only[Bool.and_eq_true]at hd;intro e;rw[e]at hd;simp at hd
 have hM:Lib.parseUintB 64 (gD s)=if 18446744073709551615<dval (gD s)then .range else .ok (dval (gD s)):=by
  unfold Lib.parseUintB;rw[if_neg hne];exact Cj (Nat.le_refl _) (gD s) 0 hall (by omega)
 by_cases hp:∃d,s=45::d
 ·obtain⟨d,rfl⟩:=hp
  have hu:gD (45::d)=d:=rfl;rw[hu]at hd h0 hall hne hM
  have hB:Lib.parseIntB 64 (45::d)=if 18446744073709551615<dval d then .range else if 9223372036854775808<dval d then .range else .ok (-(dval d:Int)):=by
   unfold Lib.parseIntB;simp;rw[hM];by_cases h1:18446744073709551615<dval d<;>simp[h1]
  have hP:bN (45::d)=if 9223372036854775808<dval d then .error 13 else .ok (-(dval d:Int)):=by
   unfold bN;have h0':(d.head? == some 48)=false:=by simpa using h0
   rw[if_neg (by omega)];simp[hd,h0']
  rw[hB,hP];by_cases h1:18446744073709551615<dval d
  ·rw[if_pos h1,if_pos (by omega)];simp
  ·rw[if_neg h1];by_cases h2:9223372036854775808<dval d
   ·simp[h2]
   ·simp[h2]
 ·have hu:gD s=s:=by
   unfold gD;rw[if_neg];intro h
   have:=List.isPrefixOf_iff_prefix.1 h
   obtain⟨t,rfl⟩:=this
   exact hp ⟨t,rfl⟩
  rw[hu]at hd h0 hall hne hM
  obtain⟨c,r,rfl⟩:∃c r,s=c::r:=by cases s with|nil=>exact absurd rfl hne|cons c r=>exact⟨c,r,rfl⟩
  have hc:=(mo c).1 (by simp only[List.all_cons,Bool.and_eq_true]at hall;exact hall.1)
  have hB:Lib.parseIntB 64 (c::r)=if 18446744073709551615<dval (c::r)then .range else if 9223372036854775808≤dval (c::r)then .range else .ok (dval (c::r):Int):=by
   unfold Lib.parseIntB;have h43:¬c.toNat=43:=by omega
   have h45:¬c.toNat=45:=by omega
   simp[h43,h45];rw[hM];by_cases h1:18446744073709551615<dval (c::r)<;>simp[h1]
  have hP:bN (c::r)=if 9223372036854775807<dval (c::r)then .error 13 else .ok (dval (c::r):Int):=by
   unfold bN;rw[if_neg (by omega)];split
   ·rename_i d e;exact absurd ⟨_,e⟩ hp
   ·unfold rT;rw[if_neg (by omega)];simp only[hd,h0,Bool.not_true,Bool.false_or,Bool.false_eq_true,if_false]
  rw[hB,hP];by_cases h1:18446744073709551615<dval (c::r)
  ·rw[if_pos h1,if_pos (by omega)];simp
  ·rw[if_neg h1];by_cases h2:9223372036854775807<dval (c::r)
   ·have h3:9223372036854775808≤dval (c::r):=by omega
    simp only[if_pos h2,h3,if_true];simp
   ·have h3:¬9223372036854775808≤dval (c::r):=by omega
    simp only[if_neg h2,h3,if_false];simp
def NZ (r:Except Int Int):Value:=match r with | .ok i=>.tuple #[.int .i64 i,.int .i64 0] | .error c=>.tuple #[.int .i64 0,.int .i64 c]
theorem Fr.mV {w w':World} {e:TypeId} (h:w'=w∨∃t,w'=Lib.bytesWorld w e t):Fr [] w w':=by
 rcases h with rfl|⟨t,rfl⟩
 ·exact Fr.refl _ _
 ·exact⟨rfl,rfl,rfl,by rw[Lib.bytesWorld_size];omega,fun b hb _=>Lib.bytesWorld_at_old w e t b hb⟩
theorem wM (s:Bytes) (h64:s.length≤64) (hd:(!digits (gD s)||((gD s).head? == some 48&&s != [48]))=true):bN s=.error 20:=by
 unfold bN;rw[if_neg (by omega)];split
 ·rename_i d;have hu:gD (45::d)=d:=rfl;rw[hu]at hd
  have hd':(!digits d||d.head? == some 48)=true:=by
   simp only[Bool.or_eq_true,Bool.and_eq_true]at hd ⊢;rcases hd with h|h
   ·exact .inl h
   ·exact .inr h.1
  rw[if_pos hd']
 ·rename_i hn
  have hu:gD s=s:=by
   unfold gD;rw[if_neg];intro h;obtain⟨t,rfl⟩:=List.isPrefixOf_iff_prefix.1 h
   exact hn t rfl
  rw[hu]at hd
  unfold rT;rw[if_neg (by omega),if_pos hd]
theorem wN (s:Bytes) (w:World) (hV:Vars w) (hs:s.length≤140737488351232) :
  Calls Tryz.prog 148 #[.string ⟨s.toArray⟩] w (fun e w'=>e=.returned (NZ (bN s))∧Fr [] w w'):=by
 by_cases h64:64<s.length
 ·have HF:Hid (NZ (bN s)=.tuple #[.int .i64 0,.int .i64 2]):=by show _=_;unfold bN;rw[if_pos h64];rfl
  have UW:(64:Int)<s.length:=by omega
  go_enter Tryz.func148,Tryz.ntmps148;go_wp2;exact bodyPost_ret (v:=NZ (bN s)) (by rw[HF.out];simp[results,Tryz.results148,go_sem]) rfl ⟨rfl,Fr.refl _ _⟩
 have UW:¬(64:Int)<s.length:=by omega
 have hul:(gD s).length≤140737488351232:=by
  unfold gD;split
  ·simp only[List.length_drop];omega
  ·omega
 have ht:∀W,Calls Tryz.prog 163 #[.string ⟨s.toArray⟩,.string ⟨#[45]⟩] W (fun e w'=>e=.returned (.string ⟨(gD s).toArray⟩)∧W=w'):=fun W=>Cg s [45] W
 have hdg:=fun W=>Cm (gD s) W hul
 cases hd:digits (gD s)
 ·have HF:Hid (NZ (bN s)=.tuple #[.int .i64 0,.int .i64 20]):=by show _=_;rw[wM s (by omega) (by rw[hd];rfl)];rfl
  rw[hd]at hdg
  clear hd;go_enter Tryz.func148,Tryz.ntmps148
  go_wp2_with (first|(go_at_call 163;refine(ht _).mono ?_;rintro e w' ⟨rfl,rfl⟩)|(go_at_call 182;refine(hdg _).mono ?_;rintro e w' ⟨rfl,rfl⟩))
  exact bodyPost_ret (v:=NZ (bN s)) (by rw[HF.out];simp[results,Tryz.results148,go_sem]) rfl ⟨rfl,Fr.refl _ _⟩
 ·obtain⟨c,r,hcr⟩:∃c r,gD s=c::r:=by
   cases hu:gD s with
   | nil=>rw[hu]at hd;cases hd
   | cons c r=>exact⟨c,r,rfl⟩
  have hB:=wM s (by omega);have hO:=Gb s (by omega) hd;rw[hcr]at ht hdg hB hO hd
  rw[hd]at hdg hB
  have hhd:((c::r).head? == some 48)=(c==48):=rfl;rw[hhd]at hB hO
  have h48:((c.toNat:Int)==48)=(c==48):=UU c 48 48 rfl;cases hc:(c==48)
  ·rw[hc]at h48 hO
   obtain⟨o1,o2,o3⟩:=hO rfl
   clear hB hhd hd hc;rcases o3 with⟨v,hp⟩|hp
   ·
    have HF:Hid (NZ (bN s)=.tuple #[.int .i64 v,.int .i64 0]):=by show _=_;rw[o1 v hp];rfl
    have cp:=fun W=>Tryz.strconv_ParseInt_10_at64_ok ⟨s.toArray⟩ (by simp[ByteArray.size];omega) v hp W
    clear o1 o2 hp;go_enter Tryz.func148,Tryz.ntmps148
    go_wp2_with (first|(go_at_call 163;refine(ht _).mono ?_;rintro e w' ⟨rfl,rfl⟩)|(go_at_call 182;refine(hdg _).mono ?_;rintro e w' ⟨rfl,rfl⟩)|(go_at_call 185;refine(cp _).mono ?_;rintro e w1 ⟨rfl,hw1⟩))
    exact bodyPost_ret (v:=NZ (bN s)) (by rw[HF.out];simp[results,Tryz.results148,go_sem]) rfl ⟨rfl,Fr.mV hw1⟩
   ·
    have HF:Hid (NZ (bN s)=.tuple #[.int .i64 0,.int .i64 13]):=by show _=_;rw[o2 hp];rfl
    obtain⟨tp,p,hvar⟩:=hV.facts.range
    have cp:=Tryz.strconv_ParseInt_10_at64_range_var ⟨s.toArray⟩ (by simp[ByteArray.size];omega) hp tp p w hvar;clear o1 o2 hp;go_enter Tryz.func148,Tryz.ntmps148
    go_wp2_with (first|(go_at_call 163;refine(ht _).mono ?_;rintro e w' ⟨rfl,rfl⟩)|(go_at_call 182;refine(hdg _).mono ?_;rintro e w' ⟨rfl,rfl⟩)|(go_at_call 185;refine cp.mono ?_;rintro e w1 ⟨N,rfl,hN1,hN2,hw1⟩))
    exact bodyPost_ret (v:=NZ (bN s)) (by rw[HF.out];simp[results,Tryz.results148,go_sem]) rfl ⟨rfl,Fr.of_below hw1⟩
  ·rw[hc]at h48 hO hB
   cases hz:(s==[48])
   ·have hz':(s != [48])=true:=by rw[bne,hz];rfl
    have HF:Hid (NZ (bN s)=.tuple #[.int .i64 0,.int .i64 20]):=by show _=_;rw[hB (by rw[hz'];rfl)];rfl
    clear hB hO hhd hd hc;go_enter Tryz.func148,Tryz.ntmps148
    go_wp2_with (first|(go_at_call 163;refine(ht _).mono ?_;rintro e w' ⟨rfl,rfl⟩)|(go_at_call 182;refine(hdg _).mono ?_;rintro e w' ⟨rfl,rfl⟩))
    exact bodyPost_ret (v:=NZ (bN s)) (by rw[HF.out];simp[results,Tryz.results148,go_sem]) rfl ⟨rfl,Fr.refl _ _⟩
   ·obtain rfl:=beq_iff_eq.1 hz;have HF:Hid (NZ (bN [48])=.tuple #[.int .i64 0,.int .i64 0]):=by show _=_;rfl
    have cp:=fun W=>Tryz.strconv_ParseInt_10_at64_ok ⟨([48]:Bytes).toArray⟩ (by simp[ByteArray.size]) 0 (by rfl) W
    obtain⟨rfl,rfl⟩:(48:UInt8)=c∧[]=r:=by
     have:gD [48]=[48]:=rfl
     rw[this]at hcr;cases hcr;exact⟨rfl,rfl⟩
    clear hB hO hhd hd hc hz hcr;go_enter Tryz.func148,Tryz.ntmps148
    go_wp2_with (first|(go_at_call 163;refine(ht _).mono ?_;rintro e w' ⟨rfl,rfl⟩)|(go_at_call 182;refine(hdg _).mono ?_;rintro e w' ⟨rfl,rfl⟩)|(go_at_call 185;refine(cp _).mono ?_;rintro e w1 ⟨rfl,hw1⟩))
    exact bodyPost_ret (v:=NZ (bN [48])) (by rw[HF.out];simp[results,Tryz.results148,go_sem]) rfl ⟨rfl,Fr.mV hw1⟩
theorem Gn (s:Bytes) (i:Int) (w:World) (hV:Vars w) (hs:s.length≤140737488351232) (h:bN s=.ok i) :
 Calls Tryz.prog 148 #[.string ⟨s.toArray⟩] w (fun e w'=>e=.returned (.tuple #[.int .i64 i,.int .i64 0])∧Fr [] w w'):=by
 have:=wN s w hV hs;rw[h]at this;exact this
theorem EJ (s:Bytes) (c:Int) (w:World) (hV:Vars w) (hs:s.length≤140737488351232) (h:bN s=.error c) :
 Calls Tryz.prog 148 #[.string ⟨s.toArray⟩] w (fun e w'=>e=.returned (.tuple #[.int .i64 0,.int .i64 c])∧Fr [] w w'):=by
 have:=wN s w hV hs;rw[h]at this;exact this
theorem Tryz.infoU64:(Tryz.prog.info? 38).map (fun i=>(i.zero,i.size,i.bytes))=some (some (.int .u64 0),1,8):=by kernel_rfl
def lF (l:List Nat):List Value:=l.map fun n:Nat=>Value.int .u64 (n:Int)
def Gc:Bytes:=[48,49,50,51,52,53,54,55,56,57,97,98,99,100,101,102]
theorem Q6:∀i,i<16→lM (Gc[i]?.getD 0)=true∧tK (Gc[i]?.getD 0)=i:=by decide
theorem Q7 (c:UInt8) (h:lM c=true):∃i,i<16∧Gc[i]?.getD 0=c:=by
 refine⟨tK c,?_⟩;unfold lM digit at h;simp only[nM,Bool.or_eq_true,Bool.and_eq_true,decide_eq_true_eq]at h;have hc:c.toNat<256:=c.toNat_lt;have key:∀n:Nat,n<256→(48≤n∧n≤57∨97≤n∧n≤102)→tK (UInt8.ofNat n)<16∧Gc[tK (UInt8.ofNat n)]?.getD 0=UInt8.ofNat n:=by decide
 have:=key c.toNat hc h
 rwa [UInt8.ofNat_toNat]at this
theorem yR {W X:World} {base:Nat} {e:TypeId} {size n:Nat} {v:Value} {xs:List Value} (h:W.ownsRow base e size v n xs) (hf:Fr [] W X):X.ownsRow base e size v n xs:=by
 refine⟨h.1,?_⟩;rcases h.2 with hn|⟨g,cap,cur,rfl,hb,hgg,rest⟩
 ·exact .inl hn
 ·exact .inr ⟨g,cap,cur,rfl,hb,(hf.block g (Array.getElem?_eq_some_iff.1 hgg).1 (by simp)).trans hgg,rest⟩
theorem Ml (s:Bytes) (w:World) (hs:s.length≤1000000) :
  Calls Tryz.prog 181 #[.string ⟨s.toArray⟩] w (fun e w'=>∃v,e=.returned (.tuple #[v,.string ⟨(cut s).2.toArray⟩])∧w'.ownsRow w.heap.size 38 1 v (cut s).1.length (lF (cut s).1)∧Fr [] w w'):=by
 obtain⟨i0,hi,hz0,hz1,hz2⟩:=info_parts Tryz.infoU64
 go_enter Tryz.func181,Tryz.ntmps181;go_wp2;refine wp_scope_straight ?_;go_wp2
 try (refine wp_label ?_;go_wp2)
 have ZW:Hid (cut s=([]++(cut (s.drop 0)).1,(cut (s.drop 0)).2)):=by show _=_;simp
 go_loopg [0,4] s.length (fun k v0 v4 wr=>∃(j:Nat) (l:List Nat) (v:Value),v=v4∧v0=.string ⟨(s.drop j).toArray⟩∧k+j=s.length∧Hid (wr.ownsRow w.heap.size 38 1 v l.length (lF l)∧cut s=(l++(cut (s.drop j)).1,(cut (s.drop j)).2)∧Fr [] w wr∧l.length≤j))
 case atStart=>exact⟨0,[],_,rfl,by simp,by simp,⟨rfl,.inl ⟨rfl,rfl⟩⟩,ZW.out,Fr.refl _ _,by simp⟩
 case round =>
  obtain⟨j,l,v,rfl,rfl,hkj,hq⟩:=hrel
  obtain⟨hown,hcut,hf,hlj⟩:=hq.out
  by_cases hlt:j<s.length
  ·obtain⟨c,r,hd⟩:∃c r,s.drop j=c::r:=⟨_,_,List.drop_eq_getElem_cons hlt⟩
   have hr:s.drop (j+1)=r:=by rw[List.drop_eq_getElem_cons hlt]at hd;exact(List.cons.inj hd).2
   have hrl:r.length+1+j=s.length:=by have:=congrArg List.length hd;simp at this;omega
   rw[hd]at hcut ⊢
   go_wp2
   go_loopg [0,4,9] 16 (fun k v0 v4 v9 wr2=>∃i:Nat,v0=.string ⟨(c::r).toArray⟩∧v=v4∧v9=.int .i64 i∧k+i=16∧Hid ((∀q,q<i→Gc[q]?.getD 0≠c)∧wr2.ownsRow w.heap.size 38 1 v l.length (lF l)∧Fr [] w wr2))
   case atStart=>exact⟨0,rfl,rfl,rfl,rfl,fun q hq=>by omega,hown,hf⟩
   case round =>
    obtain⟨i,rfl,rfl,rfl,hki,hq⟩:=hrel
    obtain⟨hno,hown2,hf2⟩:=hq.out
    by_cases acK:i<16
    ·have hi0:(0:Int)≤(i:Int):=Int.natCast_nonneg i;have hi6:(i:Int)<16:=by omega
     have hget:([48,49,50,51,52,53,54,55,56,57,97,98,99,100,101,102]:List UInt8)[i]'(by simp;omega)=Gc[i]?.getD 0:=by
      rw[List.getElem?_eq_getElem (by simp[Gc];omega)];rfl
     have hat:=Q6 i acK;obtain⟨x,hx⟩:∃x,Hid (x=Gc[i]?.getD 0):=⟨_,rfl⟩
     rw[←hx.out]at hget hat
     have hnx:∀q,q<i+1→x≠c→Gc[q]?.getD 0≠c:=fun q hq hxc=>by
      rcases Nat.lt_or_ge q i with h1|h1
      ·exact hno q h1
      ·obtain rfl:q=i:=by omega
       rw[←hx.out];exact hxc
     have HX:=Lib.hid hnx;clear hnx hno hx;go_wp2
     go_region
     clear hget;cases he:((c.toNat:Int)==(x.toNat:Int))
     ·have hne:x≠c:=fun e=>by rw[e]at he;simp at he
      go_wp2
      go_roundg (16-(i+1))
      case measure=>omega
      case rel=>exact⟨i+1,rfl,rfl,by go_num,by omega,fun q hq=>HX.out q hq hne,hown2,hf2.drew⟩
     ·obtain rfl:x=c:=by
       have:c.toNat=x.toNat:=by have:=beq_iff_eq.1 he;omega
       exact(UInt8.toNat_inj.1 this).symm
      have yS:cut s=(l++[i]++(cut r).1,(cut r).2):=by
       rw[hcut];simp only[cut,hat.1,if_true,hat.2,List.append_assoc,List.singleton_append]
      have HC:=Lib.hid yS;clear hcut yS hat HX
      go_wp2_with (at_builtin;refine wpList_append_lies _ rfl _ _ 160 rfl w.heap.size 38 i0 (.int .u64 0) 1 8 Tryz.underlying160 hi hz0 hz1 hz2 rfl (by decide) v l.length (lF l) rfl (yR hown2 (((Fr.refl [] _).drew).alloc _)) ⟨wr.heap.size,0,none⟩ 1 1 [.int .u64 (i:Int)] rfl rfl (World.news_of_block (au.new _ _ _)) (by simp[Value.oneCell']) (by omega) (by simp[maxLen];omega) (by omega) (by have:=hf2.size;simp;omega) _ rfl ?_;intro g' cap' w3 hown3 hg3 CQ hlt3)
      go_roundg (s.length-(j+1))
      case measure=>omega
      case rel =>
       have vP:w3.ownsRow w.heap.size 38 1 (.slice (some ⟨g',0,none⟩) (l.length+1) cap') (l++[i]).length (lF (l++[i])):=by
        rw[show(l++[i]).length=l.length+1 by simp,show lF (l++[i])=lF l++[.int .u64 (i:Int)]by simp[lF]];exact hown3
       have eY:Fr [] w w3:=(hf2.drew.alloc _).grown hg3 (fun k e=>.inr (hown2.lt k e).1);exact⟨j+1,l++[i],_,rfl,by rw[hr],by omega,vP,by rw[hr];exact HC.out,eY,by simp;omega⟩
    ·have hx:lM c=false:=by
      rw[Bool.eq_false_iff];intro h;obtain⟨q,hq1,hq2⟩:=Q7 c h
      exact hno q (by omega) hq2
     have yS:cut s=(l,c::r):=by rw[hcut];simp[cut,hx]
     have HC:=Lib.hid yS;have hi6:¬(i:Int)<16:=by omega
     clear hcut yS hno hx;go_wp2;refine bodyPost_ret (v:=.tuple #[v,.string ⟨(c::r).toArray⟩]) (by simp[results,Tryz.results181,go_sem]) rfl ?_;rw[HC.out];exact⟨v,rfl,hown2,hf2⟩
  ·have yS:cut s=(l,[]):=by rw[hcut,List.drop_eq_nil_of_le (by omega)];simp[cut]
   have hd:s.drop j=[]:=List.drop_eq_nil_of_le (by omega);have HC:=Lib.hid yS;clear hcut yS;rw[hd];go_wp2;simp only[Exit.noGoto];refine bodyPost_ret (v:=.tuple #[v,.string ⟨#[]⟩]) (by simp[results,Tryz.results181,go_sem]) rfl ?_;rw[HC.out];exact⟨v,rfl,hown,hf⟩
theorem Tryz.bruijnAt:Tryz.prog.globalNamed "math/bits.deBruijn64tab" = some 1:=by kernel_rfl
theorem Vars.tab {w:World} (h:Vars w):TabAt 1 Lib.deBruijn64tab w:=by
 intro j hj;have hb:=h.facts.bruijn;unfold World.var? at hb;rw[Tryz.bruijnAt]at hb
 simp only[Option.bind_some]at hb;split at hb
 ·rename_i cs T fr hc;have hb:=Option.some.inj hb;rw[show w.cell? ⟨1,j,none⟩=cs[j]? by simp[World.cell?,hc],hb];have key:∀j,j<64→(([0,1,56,2,57,49,28,3,61,58,42,50,38,29,17,4,62,47,59,36,45,43,51,22,53,39,33,30,24,18,12,5,63,55,48,27,60,41,37,16,46,35,44,21,52,32,23,11,54,26,40,15,34,20,31,10,25,14,19,9,13,8,7,6]:List Int)[j]?)=some ((Lib.deBruijn64tab.getD j 0:Nat):Int):=by decide
  have:=key j hj
  simp only[List.map_toArray,List.getElem?_toArray,List.getElem?_map,this,Option.map_some]
 ·cases hb
theorem ug (n:Nat) (h:n<18446744073709551616):IntKind.u64.wrap (n:Int)=(n:Int):=by
 have:(n:Int)%18446744073709551616=n:=Int.emod_eq_of_lt (by omega) (by omega)
 simp[IntKind.wrap,IntKind.bits,IntKind.signed,this]
theorem N7 (m x:Nat) (hm:m*16+x<18446744073709551616) (hx:x<16):bits BinOp.or IntKind.u64 (IntKind.u64.wrap ((m:Int)*16)) (x:Int)=((m*16+x:Nat):Int):=by
 have e1:((m:Int)*16)=((m*16:Nat):Int):=by omega
 rw[e1,ug _ (by omega)];unfold bits;have h1:m*16%18446744073709551616=m*16:=Nat.mod_eq_of_lt (by omega);have h2:x%18446744073709551616=x:=Nat.mod_eq_of_lt (by omega)
 have h3:m*16 ||| x=m*16+x:=by
  have:=Nat.shiftLeft_add_eq_or_of_lt (b:=x) (i:=4) hx m
  rw[Nat.shiftLeft_eq]at this
  exact this.symm
 have h4:(BitVec.ofInt IntKind.u64.bits ((m*16:Nat):Int) ||| BitVec.ofInt IntKind.u64.bits (x:Int)).toNat=m*16+x:=by
  rw[BitVec.toNat_or];simp only[IntKind.bits,BitVec.toNat_ofInt];have g1:(((m*16:Nat):Int)%((2 ^ 64:Nat):Int)).toNat=m*16:=by omega
  have g2:((x:Int)%((2 ^ 64:Nat):Int)).toNat=x:=by omega
  rw[g1,g2,h3]
 simp only[h4];exact ug _ hm
theorem Lg (m x:Nat) (hm:m*16+x<18446744073709551616) (hx:x<16):bits BinOp.or IntKind.u64 ((m:Int)*16) (x:Int)=((m*16+x:Nat):Int):=by
 have:=N7 m x hm hx
 rwa [show((m:Int)*16)=((m*16:Nat):Int)by omega,ug _ (by omega),←show((m:Int)*16)=((m*16:Nat):Int)by omega]at this
theorem Mq:∀(l:List Nat) (a:Nat),(∀x∈l,x<16)→l.foldl (fun a d=>a*16+d) a<(a+1)*16 ^ l.length
 | [],a,_=>by simp
 | x::l,a,h=>by
  have h1:=h x (by simp);have h2:=Mq l (a*16+x) (fun y hy=>h y (List.mem_cons_of_mem _ hy));simp only[List.foldl_cons,List.length_cons];refine Nat.lt_of_lt_of_le h2 ?_;rw[Nat.pow_succ,Nat.mul_comm (16 ^ l.length) 16,←Nat.mul_assoc];exact Nat.mul_le_mul_right _ (by omega)
theorem Mr (l:List Nat) (h:∀x∈l,x<16) (hl:l.length≤14):l.foldl (fun a d=>a*16+d) 0<72057594037927936:=by
 have h1:=Mq l 0 h;have h2:16 ^ l.length≤16 ^ 14:=Nat.pow_le_pow_right (by omega) hl;omega
def Ji (w:World) (v:Value) (L:List Nat):Prop:=∃x c,v=.slice x L.length c∧L.length≤c∧(L≠[]→∃g o,x=some ⟨g,o,none⟩∧∀(i d:Nat),L[i]? = some d→w.cell? ⟨g,o+i,none⟩=some (.int .u64 (d:Int)))
theorem N8 (t y:Nat) (ht:t<2048) (hy:y<4503599627370496):bits BinOp.or IntKind.u64 ((t:Int)*4503599627370496) (y:Int)=((t*4503599627370496+y:Nat):Int):=by
 have e1:((t:Int)*4503599627370496)=((t*4503599627370496:Nat):Int):=by omega
 rw[e1];unfold bits
 have h3:t*4503599627370496 ||| y=t*4503599627370496+y:=by
  have:=Nat.shiftLeft_add_eq_or_of_lt (b:=y) (i:=52) hy t
  rw[Nat.shiftLeft_eq]at this
  exact this.symm
 have h4:(BitVec.ofInt IntKind.u64.bits ((t*4503599627370496:Nat):Int) ||| BitVec.ofInt IntKind.u64.bits (y:Int)).toNat=t*4503599627370496+y:=by
  rw[BitVec.toNat_or];simp only[IntKind.bits,BitVec.toNat_ofInt];have g1:(((t*4503599627370496:Nat):Int)%((2 ^ 64:Nat):Int)).toNat=t*4503599627370496:=by omega
  have g2:((y:Int)%((2 ^ 64:Nat):Int)).toNat=y:=by omega
  rw[g1,g2,h3]
 simp only[h4];exact ug _ (by omega)
theorem bits_mask (x:Nat) (hx:x<18446744073709551616):bits BinOp.and IntKind.u64 (x:Int) 4503599627370495=((x%4503599627370496:Nat):Int):=by
 unfold bits;have h3:x &&& 4503599627370495=x%4503599627370496:=Nat.and_two_pow_sub_one_eq_mod x 52
 have h4:(BitVec.ofInt IntKind.u64.bits (x:Int) &&& BitVec.ofInt IntKind.u64.bits 4503599627370495).toNat=x%4503599627370496:=by
  rw[BitVec.toNat_and];simp only[IntKind.bits,BitVec.toNat_ofInt];have g2:((x:Int)%((2 ^ 64:Nat):Int)).toNat=x:=by omega
  have g1:((4503599627370495:Int)%((2 ^ 64:Nat):Int)).toNat=4503599627370495:=by omega
  rw[g1,g2,h3]
 simp only[h4];exact ug _ (by omega)
theorem SS (m0 n:Nat) (E:Int) (h1:m0<2 ^ n) (c3:¬E < -1074) (c4:E+n-1 < -1022) :
  IntKind.u64.wrap ((m0:Int)*2 ^ (E+1074).toNat)=((m0*2 ^ (E+1074).toNat:Nat):Int):=by
 obtain⟨k,hk⟩:∃k:Nat,(E+1074).toNat=k:=⟨_,rfl⟩
 rw[hk];have hnk:n+k≤52:=by omega
 have h2:m0*2 ^ k<2 ^ 52:=by
  have:m0*2 ^ k<2 ^ n*2 ^ k:=Nat.mul_lt_mul_of_pos_right h1 (Nat.pos_of_ne_zero (by simp))
  rw[←Nat.pow_add]at this
  exact Nat.lt_of_lt_of_le this (Nat.pow_le_pow_right (by omega) hnk)
 have e1:((m0:Int)*2 ^ k)=((m0*2 ^ k:Nat):Int):=by simp
 rw[e1];exact ug _ (by omega)
theorem Q8 (m0 n:Nat) (E:Int) (h1:m0<2 ^ n) (hn:1≤n) (c1:¬(53:Int)<n) (c2:¬1023<E+n-1) (c4:¬E+n-1 < -1022) :
  bits BinOp.or IntKind.u64 ((E+n-1+1023)*4503599627370496) (bits BinOp.and IntKind.u64 (IntKind.u64.wrap ((m0:Int)*2 ^ (53-n))) 4503599627370495) =
   (E+n-1+1023)*2 ^ 52+((m0*2 ^ (53-n)%2 ^ 52:Nat):Int):=by
 have h2:m0*2 ^ (53-n)<2 ^ 53:=by
  have:m0*2 ^ (53-n)<2 ^ n*2 ^ (53-n):=Nat.mul_lt_mul_of_pos_right h1 (Nat.pos_of_ne_zero (by simp))
  rw[←Nat.pow_add]at this
  exact Nat.lt_of_lt_of_le this (Nat.pow_le_pow_right (by omega) (by omega))
 have e1:((m0:Int)*2 ^ (53-n))=((m0*2 ^ (53-n):Nat):Int):=by simp
 rw[e1,ug _ (by omega),bits_mask _ (by omega)];obtain⟨t,ht⟩:∃t:Nat,E+n-1+1023=(t:Int):=⟨(E+n-1+1023).toNat,by omega⟩
 rw[ht,N8 t _ (by omega) (Nat.mod_lt _ (by omega))]
 have:(2:Nat) ^ 52=4503599627370496:=by decide
 rw[this];generalize m0*2 ^ (53-n)%4503599627370496=y;omega
theorem sZ:∀(L:List Nat) (d:Nat) (r:List Nat),dropZeros L=d::r→(d==0)=false
 | [],d,r,h=>by simp[dropZeros]at h
 | a::l,d,r,h=>by
  cases ha:(a==0)
  ·simp[dropZeros,ha]at h;rw[←h.1];exact ha
  ·simp only[dropZeros,ha,if_true]at h;exact sZ l d r h
theorem wP:∀(L:List Nat),(dropZeros L).length≤L.length
 | []=>Nat.le_refl _
 | a::l=>by
  have:=wP l
  simp only[dropZeros];split
  ·simp;omega
  ·exact Nat.le_refl _
theorem uG:∀(L:List Nat) (x:Nat),x∈dropZeros L→x∈L
 | [],x,h=>by simp[dropZeros]at h
 | a::l,x,h=>by
  simp only[dropZeros]at h;split at h
  ·exact List.mem_cons_of_mem _ (uG l x h)
  ·exact h
theorem uH:∀(k:Nat) (l:List Nat),dropZeros (List.replicate k 0++l)=dropZeros l
 | 0,l=>rfl
 | k+1,l=>by
  rw[List.replicate_succ,List.cons_append];simp only[dropZeros];exact uH k l
theorem Q9 (L:List Nat) (e:Int) (N:List Nat) (d:Nat) (N':List Nat) (k:Nat) (hN:N=N'++[d]) (hd:(d==0)=false) (hL:dropZeros L=N++List.replicate k 0) :
  exact L e=if 14<N.length then none else qL (N.foldl (fun a d=>a*16+d) 0) (e+4*(k:Int)):=by
 have hr:dropZeros (N++List.replicate k 0).reverse=N.reverse:=by
  rw[List.reverse_append,List.reverse_replicate,uH,hN,List.reverse_append];simp[dropZeros,hd]
 unfold exact;simp only[hL,hr];have he:N.reverse.isEmpty=false:=by rw[hN];simp
 rw[he];simp only[Bool.false_eq_true,if_false,List.length_reverse,List.reverse_reverse,List.length_append,List.length_replicate,Nat.add_sub_cancel_left]
theorem I7:∀(f m:Nat),0<m→m<2 ^ f→Cy f m=Lib.ctzFrom f m
 | 0,m,h,h2=>by simp at h2;omega
 | f+1,m,h,h2=>by
  simp only[Cy,Lib.ctzFrom];by_cases hm:m%2=1
  ·rw[if_pos hm];simp[hm]
  ·have h0:m%2=0:=by omega
   rw[if_neg hm,I7 f (m/2) (by omega) (by rw[Nat.pow_succ]at h2;omega)];simp[h0];omega
theorem tq:∀(f x:Nat),0<x→x<2 ^ f→Lib.bitLenAux f x=x.log2+1
 | 0,x,h,h2=>by simp at h2;omega
 | f+1,x,h,h2=>by
  simp only[Lib.bitLenAux];rw[if_neg (by omega)];by_cases h1:x=1
  ·subst h1;cases f with
   | zero=>simp[Lib.bitLenAux];decide
   | succ f=>simp[Lib.bitLenAux];decide
  ·rw[tq f (x/2) (by omega) (by rw[Nat.pow_succ]at h2;omega)];rw[Nat.log2_def x,if_pos (by omega)];omega
theorem bitLen_spec (x:Nat) (h:0<x) (h2:x<72057594037927936):Lib.bitLen x=x.log2+1:=tq 64 x h (by omega)
theorem N9 (m:Nat) (e:Int) (low m0:Nat) (hl:Cy 64 m=low) (hm:m/2 ^ low=m0) (h0:0<m0) (hb:m0<72057594037927936) :
  qL m e=if 53<Lib.bitLen m0∨1023<e+low+Lib.bitLen m0-1∨e+low < -1074 then none
   else if e+low+Lib.bitLen m0-1 < -1022 then some ((m0*2 ^ (e+low+1074).toNat:Nat):Int)
   else some ((e+low+Lib.bitLen m0-1+1023)*2 ^ 52+((m0*2 ^ (53-Lib.bitLen m0)%2 ^ 52:Nat):Int)):=by
 have hn:(if (m0==0)=true then 0 else m0.log2+1)=Lib.bitLen m0:=by rw[bitLen_spec m0 h0 hb,if_neg (by simp;omega)]
 unfold qL;simp only[hl,hm,hn];simp only[Bool.or_eq_true,decide_eq_true_eq,or_assoc]
def exV (r:Option Int):Value:=match r with|some b=>.tuple #[.int .u64 b,.bool true]|none=>.tuple #[.int .u64 0,.bool false]
theorem EB (L:List Nat) (e:Int) (v:Value) (w:World) (hV:Vars w) (hv:Ji w v L) (hL:L.length≤100) (h16:∀d∈L,d<16) (he : -1000000≤e∧e≤1000000) :
  Calls Tryz.prog 184 #[v,.int .i64 e] w (fun en w'=>en=.returned (exV (exact L e))∧Fr [] w w'):=by
 cases hL0:dropZeros L with
 | nil =>
  have HF:Hid (exV (exact L e)=.tuple #[.int .u64 0,.bool true]):=by show _=_;unfold exact;rw[hL0];rfl
  go_enter Tryz.func184,Tryz.ntmps184;go_wp2
  go_loopg [0] L.length (fun k v0 wr=>∃(M:List Nat) (u:Value),u=v0∧wr=w∧k=M.length∧Hid (Ji w u M∧[]=dropZeros M∧M.length≤L.length))
  case atStart=>exact⟨L,_,rfl,rfl,rfl,hv,hL0.symm,Nat.le_refl _⟩
  case round =>
   obtain⟨M,u,rfl,rfl,rfl,hq⟩:=hrel
   obtain⟨⟨x,c,rfl,hc,hcell⟩,hdz,hml⟩:=hq.out
   clear hq;cases M with
   | nil =>
    clear hdz hcell hL0;simp only[List.length_nil];go_wp2
    go_loopg [0,1] 0 (fun k v0 v1 w2=>v0=.slice x 0 c∧w2=wr)
    case atStart=>exact⟨rfl,rfl⟩
    case round =>
     obtain⟨rfl,rfl⟩:=hrel
     go_wp2;refine bodyPost_ret (v:=.tuple #[.int .u64 0,.bool true]) (by simp[results,Tryz.results184,go_sem]) rfl ?_;rw[HF.out];exact⟨rfl,Fr.refl _ _⟩
   | cons d r =>
    obtain⟨g,o,rfl,hcl⟩:=hcell (by simp)
    have h0:=hcl 0 d rfl;simp only[Nat.add_zero]at h0
    have hdy:(d==0)=true:=by
     cases hd:(d==0)
     ·simp[dropZeros,hd]at hdz
     ·rfl
    have hd:((d:Int)==0)=true:=by rw[←hdy];rw[Bool.eq_iff_iff,beq_iff_eq,beq_iff_eq];omega
    have HN:Hid ([]=dropZeros r):=by show _=_;rw[hdz];simp[dropZeros,hdy]
    have hcr:r.length+1≤c:=by simpa using hc
    have HC:=Lib.hid hcl;clear hcl hcell hdz hL0 hdy;go_wp2
    all_goals
     go_roundg r.length
     case measure=>omega
     case rel =>
      refine⟨r,_,rfl,rfl,rfl,⟨_,_,rfl,by omega,fun hr=>?_⟩,HN.out,by simp at hml;omega⟩
      first
      | exact⟨g,o+1,rfl,fun i d' hi=>by have:=HC.out (i+1) d' (by simpa using hi);rwa [←Nat.add_assoc,Nat.add_right_comm]at this⟩
      | (exfalso;apply hr;apply List.eq_nil_of_length_eq_zero;omega)
 | cons d0 r0 =>
  have hd0:=sZ L d0 r0 hL0;have ZX:(d0::r0).length≤L.length:=by rw[←hL0];exact wP L
  go_enter Tryz.func184,Tryz.ntmps184;go_wp2
  go_loopg [0] L.length (fun k v0 wr=>∃(M:List Nat) (u:Value),u=v0∧wr=w∧k=M.length∧Hid (Ji w u M∧(d0::r0)=dropZeros M∧M.length≤L.length))
  case atStart=>exact⟨L,_,rfl,rfl,rfl,hv,hL0.symm,Nat.le_refl _⟩
  case round =>
   obtain⟨M,u,rfl,rfl,rfl,hq⟩:=hrel
   obtain⟨⟨x,c,rfl,hc,hcell⟩,hdz,hml⟩:=hq.out
   clear hq;cases M with
   | nil=>simp[dropZeros]at hdz
   | cons d r =>
    obtain⟨g,o,rfl,hcl⟩:=hcell (by simp)
    have h0:=hcl 0 d rfl;simp only[Nat.add_zero]at h0;have HC:=Lib.hid hcl;clear hcl hcell;cases hdy:(d==0)
    ·have hd:((d:Int)==0)=false:=by rw[←hdy];rw[Bool.eq_iff_iff,beq_iff_eq,beq_iff_eq];omega
     obtain⟨rfl,rfl⟩:d0=d∧r0=r:=by simp[dropZeros,hdy]at hdz;exact hdz
     have hL0':=hL0;clear hdz hdy hL0;go_wp2
     go_loopg [0,1] (r0.length+1) (fun k v0 v1 w2=>∃(N:List Nat) (e':Int),v0=.slice (some ⟨g,o,none⟩) N.length c∧v1=.int .i64 e'∧w2=wr∧k=N.length∧Hid (N++List.replicate ((d0::r0).length-N.length) 0=d0::r0∧N≠[]∧N.length≤(d0::r0).length∧e'=e+4*(((d0::r0).length:Int)-N.length)))
     case atStart=>exact⟨d0::r0,e,by simp,rfl,rfl,by simp,by simp,by simp,Nat.le_refl _,by omega⟩
     case round =>
      obtain⟨N,e',rfl,rfl,rfl,rfl,hq⟩:=hrel
      obtain⟨hN,hne,hNl,he'⟩:=hq.out
      clear hq;obtain⟨N',d,rfl⟩:∃N' d,N=N'++[d]:=⟨N.dropLast,N.getLast hne,(List.dropLast_concat_getLast hne).symm⟩
      have hnl:(N'++[d]).length=N'.length+1:=by simp
      have hget:(d0::r0)[N'.length]? = some d:=by rw[←hN];simp
      have h1:=HC.out N'.length d hget;have hl0:(d0::r0).length=r0.length+1:=rfl;rw[hnl]at hN hNl he' ⊢
      rw[hl0]at hNl he' hN ZX
      have hcc:N'.length+1≤c:=by rw[hl0]at hc;omega
      have hn0:(0:Int)≤(N'.length:Int):=Int.natCast_nonneg _;cases hdy:(d==0)
      ·have hd':((d:Int)==0)=false:=by rw[←hdy];rw[Bool.eq_iff_iff,beq_iff_eq,beq_iff_eq];omega
       have hdn:(d==0)=false:=hdy
       have hEx:exact L e=if 14<(N'++[d]).length then none else qL ((N'++[d]).foldl (fun a d=>a*16+d) 0) e':=by
        have hk:=Q9 L e (N'++[d]) d N' (r0.length+1-(N'.length+1)) rfl hdn (by rw[hL0',hN]);rw[hk];congr 1;rw[he'];congr 1;omega
       have UY:∀x∈(N'++[d]),x<16:=fun x hx=>h16 x (uG L x (by rw[hL0',←hN];simp only[List.mem_append];exact .inl (by simpa using hx)))
       have HE:=Lib.hid hEx;have HNN:=Lib.hid hN;clear hN hget hne hEx;by_cases xJ:(14:Int)<(N'.length:Int)+1
       ·have HF:Hid (exV (exact L e)=.tuple #[.int .u64 0,.bool false]):=by show _=_;rw[HE.out,if_pos (by simp;omega)];rfl
        go_wp2;refine bodyPost_ret (v:=.tuple #[.int .u64 0,.bool false]) (by simp[results,Tryz.results184,go_sem]) rfl ?_;rw[HF.out];exact⟨rfl,Fr.refl _ _⟩
       ·rw[if_neg (by simp;omega)]at HE
        go_wp2
        go_loopg [6,50] (N'.length+1) (fun k v6 v50 w2=>∃i:Nat,v50=.int .i64 i∧k+i=N'.length+1∧v6=.int .u64 ((((N'++[d]).take i).foldl (fun a d=>a*16+d) 0:Nat):Int)∧w2=wr)
        case atStart=>exact⟨0,rfl,by omega,by simp,rfl⟩
        case round =>
         obtain⟨i,rfl,hki,rfl,rfl⟩:=hrel
         by_cases hin:(i:Int)<(N'.length:Int)+1
         ·obtain⟨x,hx⟩:∃x,(N'++[d])[i]? = some x:=⟨(N'++[d])[i]'(by simp;omega),by simp⟩
          have hx2:(d0::r0)[i]? = some x:=by rw[←HNN.out,List.getElem?_append_left (by simp;omega)];exact hx
          have hci:=HC.out i x hx2;have hx16:=UY x (List.mem_of_getElem? hx);have hi0:(0:Int)≤(i:Int):=Int.natCast_nonneg _;have htk:(N'++[d]).take (i+1)=(N'++[d]).take i++[x]:=by rw[List.take_add_one,hx];rfl
          have ZY:=Mr ((N'++[d]).take (i+1)) (fun y hy=>UY y (List.mem_of_mem_take hy)) (by rw[List.length_take];omega);have Ms:((N'++[d]).take (i+1)).foldl (fun a d=>a*16+d) 0=((N'++[d]).take i).foldl (fun a d=>a*16+d) 0*16+x:=by rw[htk,List.foldl_append];rfl
          have HFO:=Lib.hid Ms;rw[Ms]at ZY
          generalize ((N'++[d]).take i).foldl (fun a d=>a*16+d) 0=m at ZY Ms HFO ⊢;have HOR:=Lib.hid (Lg m x (by omega) hx16);clear Ms htk hx;go_wp2
          go_roundg (N'.length+1-(i+1))
          case measure=>omega
          case rel=>exact⟨i+1,by go_num,by omega,by rw[HFO.out,HOR.out],rfl⟩
         ·obtain rfl:i=N'.length+1:=by omega
          have htk:(N'++[d]).take (N'.length+1)=N'++[d]:=List.take_of_length_le (by simp);have acL:=Mr (N'++[d]) UY (by simp;omega);rw[htk]
          have hmp:0<(N'++[d]).foldl (fun a d=>a*16+d) 0:=by
           rw[List.foldl_append];simp only[List.foldl_cons,List.foldl_nil]
           have:d≠0:=by simpa using hdy
           omega
          generalize (N'++[d]).foldl (fun a d=>a*16+d) 0=m at acL HE hmp ⊢;have hct:Lib.ctz 64 m=Lib.ctzFrom 64 m:=by unfold Lib.ctz;rw[if_neg (by omega)]
          obtain⟨q,hq1,hq2⟩:=Lib.ctzFrom_spec 64 m hmp (by omega)
          have htw:Cy 64 m=Lib.ctz 64 m:=by rw[hct];exact I7 64 m hmp (by omega)
          rw[←hct]at hq1 hq2
          have ctz:=fun(W:World) (hW:Vars W)=>Tryz.bits_TrailingZeros64 m (by omega) W (fun _=>hW.tab)
          clear hct htk;generalize Lib.ctz 64 m=low at hq1 hq2 htw ctz;have hm0:m/2 ^ low=2*q+1:=by rw[hq1];exact Nat.mul_div_cancel_left _ (Nat.pos_of_ne_zero (by simp))
          have acM:2*q+1≤m:=by rw[←hm0];exact Nat.div_le_self _ _
          have hdiv:(m:Int)/2 ^ low=((2*q+1:Nat):Int):=by rw[←hm0];simp
          have hmin:min low 64=low:=by omega
          have heb : -1000000≤e'∧e'≤1000500:=by omega
          obtain⟨E,hE⟩:∃E:Int,Hid (e+4*((r0.length:Int)+1-((N'.length:Int)+1))=E):=⟨_,rfl⟩
          obtain rfl:e'=E:=by rw[←hE.out,he'];omega
          rw[hE.out];have len:=fun(W:World)=>Tryz.bits_Len64 ((2*q+1:Nat):Int) W (by omega) (by omega)
          rw[Int.toNat_natCast]at len
          have hE2:=HE.out;rw[N9 m e' low (2*q+1) htw hm0 (by omega) (by omega)]at hE2
          have hbs:=bitLen_spec (2*q+1) (by omega) (by omega);have hlt:2*q+1<2 ^ Lib.bitLen (2*q+1):=by rw[hbs];exact Nat.lt_log2_self
          have Z0:Lib.bitLen (2*q+1)≤56:=by
           rw[hbs]
           have:=(Nat.log2_lt (n:=2*q+1) (k:=56) (by omega)).2 (by omega)
           omega
          have hn1:1≤Lib.bitLen (2*q+1):=by rw[hbs];omega
          generalize 2*q+1=m0 at hm0 acM hdiv len hq1 hE2 hlt Z0 hn1 hbs;clear hm0 hq1 hbs HE he';generalize Lib.bitLen m0=n at len hE2 hlt Z0 hn1;by_cases c1:(53:Int)<n
          ·have HF:Hid (exV (exact L e)=.tuple #[.int .u64 0,.bool false]):=by show _=_;rw[hE2,if_pos (by omega)];rfl
           clear hE2
           go_wp2_with (first|(go_at_call 215;refine(ctz _ hV).mono ?_;rintro e1 w1 ⟨rfl,rfl⟩)|(go_at_call 94;refine(len _).mono ?_;rintro e2 w2 ⟨rfl,rfl⟩))
           refine bodyPost_ret (v:=.tuple #[.int .u64 0,.bool false]) (by simp[results,Tryz.results184,go_sem]) rfl ?_;rw[HF.out];exact⟨rfl,Fr.refl _ _⟩
          by_cases c2:1023<e'+low+n-1
          ·have HF:Hid (exV (exact L e)=.tuple #[.int .u64 0,.bool false]):=by show _=_;rw[hE2,if_pos (by omega)];rfl
           clear hE2
           go_wp2_with (first|(go_at_call 215;refine(ctz _ hV).mono ?_;rintro e1 w1 ⟨rfl,rfl⟩)|(go_at_call 94;refine(len _).mono ?_;rintro e2 w2 ⟨rfl,rfl⟩))
           refine bodyPost_ret (v:=.tuple #[.int .u64 0,.bool false]) (by simp[results,Tryz.results184,go_sem]) rfl ?_;rw[HF.out];exact⟨rfl,Fr.refl _ _⟩
          by_cases c3:e'+low < -1074
          ·have HF:Hid (exV (exact L e)=.tuple #[.int .u64 0,.bool false]):=by show _=_;rw[hE2,if_pos (by omega)];rfl
           clear hE2
           go_wp2_with (first|(go_at_call 215;refine(ctz _ hV).mono ?_;rintro e1 w1 ⟨rfl,rfl⟩)|(go_at_call 94;refine(len _).mono ?_;rintro e2 w2 ⟨rfl,rfl⟩))
           refine bodyPost_ret (v:=.tuple #[.int .u64 0,.bool false]) (by simp[results,Tryz.results184,go_sem]) rfl ?_;rw[HF.out];exact⟨rfl,Fr.refl _ _⟩
          by_cases c4:e'+low+n-1 < -1022
          ·rw[if_neg (by omega),if_pos c4]at hE2
           have HF:=Lib.hid hE2;clear hE2
           go_wp2_with (first|(go_at_call 215;refine(ctz _ hV).mono ?_;rintro e1 w1 ⟨rfl,rfl⟩)|(go_at_call 94;refine(len _).mono ?_;rintro e2 w2 ⟨rfl,rfl⟩))
           refine bodyPost_ret (v:=.tuple #[.int .u64 (IntKind.u64.wrap ((m0:Int)*2 ^ (e'+low+1074).toNat)),.bool true]) (by simp[results,Tryz.results184,go_sem]) rfl ?_;rw[HF.out];refine⟨?_,Fr.refl _ _⟩;rw[SS m0 n (e'+low) hlt (by omega) (by omega)];rfl
          ·rw[if_neg (by omega),if_neg c4]at hE2
           have HF:=Lib.hid hE2;clear hE2
           go_wp2_with (first|(go_at_call 215;refine(ctz _ hV).mono ?_;rintro e1 w1 ⟨rfl,rfl⟩)|(go_at_call 94;refine(len _).mono ?_;rintro e2 w2 ⟨rfl,rfl⟩))
           refine bodyPost_ret (v:=.tuple #[.int .u64 (bits BinOp.or IntKind.u64 ((e'+low+n-1+1023)*4503599627370496) (bits BinOp.and IntKind.u64 (IntKind.u64.wrap ((m0:Int)*2 ^ (53-n))) 4503599627370495)),.bool true]) (by simp[results,Tryz.results184,go_sem]) rfl ?_;rw[HF.out];refine⟨?_,Fr.refl _ _⟩;rw[Q8 m0 n (e'+low) hlt hn1 (by omega) (by omega) (by omega)];rfl
      ·have hd':((d:Int)==0)=true:=by rw[←hdy];rw[Bool.eq_iff_iff,beq_iff_eq,beq_iff_eq];omega
       have hN2:N'++List.replicate (r0.length+1-N'.length) 0=d0::r0:=by
        rw[←hN,beq_iff_eq.1 hdy,List.append_assoc,show r0.length+1-N'.length=(r0.length+1-(N'.length+1))+1 by omega,List.replicate_succ];rfl
       have hne2:N'≠[]:=by
        intro e0;rw[e0]at hN
        have:d0=0:=by simp at hN;rw[←hN.1];exact beq_iff_eq.1 hdy
        rw[this]at hd0;cases hd0
       have HNN:=Lib.hid hN2;clear hN hN2 hget hne;go_wp2
       go_roundg N'.length
       case measure=>first|omega|(simp;done)|(simp;omega)
       case rel=>exact⟨N',e'+4,rfl,by go_num,rfl,rfl,by rw[hl0];exact HNN.out,hne2,by rw[hl0];omega,by rw[hl0];omega⟩
    ·have hd:((d:Int)==0)=true:=by rw[←hdy];rw[Bool.eq_iff_iff,beq_iff_eq,beq_iff_eq];omega
     have HN:Hid ((d0::r0)=dropZeros r):=by show _=_;rw[hdz];simp[dropZeros,hdy]
     have hcr:r.length+1≤c:=by simpa using hc
     clear hdz hL0 hdy;go_wp2
     all_goals
      go_roundg r.length
      case measure=>omega
      case rel =>
       refine⟨r,_,rfl,rfl,rfl,⟨_,_,rfl,by omega,fun hr=>?_⟩,HN.out,by simp at hml;omega⟩
       first
       | exact⟨g,o+1,rfl,fun i d' hi=>by have:=HC.out (i+1) d' (by simpa using hi);rwa [←Nat.add_assoc,Nat.add_right_comm]at this⟩
       | (exfalso;apply hr;apply List.eq_nil_of_length_eq_zero;omega)
theorem Oa (m:Nat) (e b:Int) (h:qL m e=some b):0≤b∧b<9223372036854775808:=by
 unfold qL at h;simp only at h;generalize hm:m/2 ^ Cy 64 m=m0 at h;generalize e+(Cy 64 m:Nat)=E at h;generalize hn:(if m0==0 then 0 else m0.log2+1)=n at h
 have hlt:m0<2 ^ n:=by
  rw[←hn];split
  ·rename_i h0;have:=beq_iff_eq.1 h0;omega
  ·exact Nat.lt_log2_self
 split at h
 ·cases h
 ·rename_i c1;simp only[Bool.or_eq_true,decide_eq_true_eq]at c1;split at h
  ·rename_i c4;obtain rfl:=Option.some.inj h;obtain⟨k,hk⟩:∃k:Nat,(E+1074).toNat=k:=⟨_,rfl⟩
   rw[hk]
   have h2:m0*2 ^ k<2 ^ 52:=by
    have:m0*2 ^ k<2 ^ n*2 ^ k:=Nat.mul_lt_mul_of_pos_right hlt (Nat.pos_of_ne_zero (by simp))
    rw[←Nat.pow_add]at this
    exact Nat.lt_of_lt_of_le this (Nat.pow_le_pow_right (by omega) (by omega))
   omega
  ·obtain rfl:=Option.some.inj h
   have:=Nat.mod_lt (m0*2 ^ (53-n)) (y:=2 ^ 52) (by decide)
   have e52:(2:Nat) ^ 52=4503599627370496:=by decide
   have UG:(2:Int) ^ 52=4503599627370496:=by decide
   rw[e52]at this
   rw[e52,UG];generalize m0*2 ^ (53-n)%4503599627370496=y at this;omega
theorem I8 (l:List Nat) (e b:Int) (h:exact l e=some b):0≤b∧b<9223372036854775808:=by
 unfold exact at h;simp only at h;split at h
 ·obtain rfl:=Option.some.inj h;omega
 ·split at h
  ·cases h
  ·exact Oa _ _ _ h
theorem EC (b:Int) (h:0≤b∧b<9223372036854775808):bits BinOp.or IntKind.u64 b 9223372036854775808=9223372036854775808+b:=by
 obtain⟨y,rfl⟩:∃y:Nat,b=(y:Int):=⟨b.toNat,by omega⟩
 unfold bits
 have h3:y ||| 9223372036854775808=9223372036854775808+y:=by
  have:=Nat.shiftLeft_add_eq_or_of_lt (b:=y) (i:=63) (by omega) 1
  rw[Nat.shiftLeft_eq]at this
  rw[Nat.or_comm];exact this.symm
 have h4:(BitVec.ofInt IntKind.u64.bits (y:Int) ||| BitVec.ofInt IntKind.u64.bits 9223372036854775808).toNat=9223372036854775808+y:=by
  rw[BitVec.toNat_or];simp only[IntKind.bits,BitVec.toNat_ofInt];have g1:((y:Int)%((2 ^ 64:Nat):Int)).toNat=y:=by omega
  have g2:((9223372036854775808:Int)%((2 ^ 64:Nat):Int)).toNat=9223372036854775808:=by omega
  rw[g1,g2,h3]
 simp only[h4];rw[ug _ (by omega)];omega
theorem wQ:∀(l:Bytes) (a:Nat),l.all digit=true→Lib.decFrom a l=some (l.foldl (fun a c=>a*10+(c.toNat-48)) a)
 | [],a,_=>rfl
 | c::l,a,h=>by
  simp only[List.all_cons,Bool.and_eq_true]at h;have hc:=(mo c).1 h.1;simp only[Lib.decFrom,Lib.digitVal,hc,and_self,if_true,List.foldl_cons];exact wQ l _ h.2
theorem yT (l:Bytes) (h:digits l=true):Lib.decNat l=some (dval l):=by
 unfold digits at h;simp only[Bool.and_eq_true,Bool.not_eq_true']at h;unfold Lib.decNat;rw[h.2];exact wQ l 0 h.1
def Cn (sg:UInt8) (d:Bytes):Int:=if sg==45 then -(dval d:Int)else dval d
theorem I9 (sg:UInt8) (d:Bytes) (hsg:sg=43∨sg=45) (h:digits d=true):Lib.atoi (sg::d)=some (Cn sg d):=by
 rcases hsg with rfl|rfl
 ·simp[Lib.atoi,yT d h,Cn]
 ·simp[Lib.atoi,yT d h,Cn]
theorem Mt:∀(d:Bytes) (a:Nat),d.all digit=true→d.foldl (fun a c=>a*10+(c.toNat-48)) a<(a+1)*10 ^ d.length
 | [],a,_=>by simp
 | c::d,a,h=>by
  simp only[List.all_cons,Bool.and_eq_true]at h;have hc:=(mo c).1 h.1
  have:=Mt d (a*10+(c.toNat-48)) h.2
  simp only[List.foldl_cons,List.length_cons];have h2:(a*10+(c.toNat-48)+1)*10 ^ d.length≤((a+1)*10)*10 ^ d.length:=Nat.mul_le_mul_right _ (by omega);rw[Nat.pow_succ,Nat.mul_comm (10 ^ d.length) 10,←Nat.mul_assoc];omega
theorem Co (sg:UInt8) (d:Bytes) (h:digits d=true) (hl:d.length≤5) : -100000<Cn sg d∧Cn sg d<100000:=by
 unfold digits at h;simp only[Bool.and_eq_true]at h;have h1:=Mt d 0 h.1;have h2:10 ^ d.length≤10 ^ 5:=Nat.pow_le_pow_right (by omega) hl;have h3:dval d<100000:=by unfold dval;omega
 unfold Cn
 split<;>omega
theorem Gd:∀s:Bytes,(cut s).1.length+(cut s).2.length=s.length
 | []=>rfl
 | c::s=>by
  have:=Gd s
  unfold cut;split
  ·simp;omega
  ·simp
theorem yj:∀s:Bytes,∀x∈(cut s).1,x<16
 | []=>by simp[cut]
 | c::s=>by
  unfold cut;split
  ·rename_i hc;intro x hx;rcases List.mem_cons.1 hx with rfl|hx
   ·obtain⟨i,hi,he⟩:=Q7 c hc
    have:=(Q6 i hi).2
    rw[he]at this
    omega
   ·exact yj s x hx
  ·simp
theorem yU {w:World} {base:Nat} {e:TypeId} {v:Value} {L:List Nat} (h:w.ownsRow base e 1 v L.length (lF L)):Ji w v L:=by
 rcases h with⟨hl,(⟨rfl,h0⟩|⟨g,cap,cur,rfl,hb,hg,hc,hcm,hcs,hx⟩)⟩
 ·have:L=[]:=List.eq_nil_of_length_eq_zero h0
  subst this;exact⟨_,_,rfl,Nat.le_refl _,fun h=>absurd rfl h⟩
 ·refine⟨_,_,rfl,hc,fun _=>⟨g,0,rfl,fun i d hi=>?_⟩⟩;have hil:=(List.getElem?_eq_some_iff.1 hi).1;have h1:(lF L)[i]? = some (.int .u64 (d:Int)):=by simp[lF,hi]
  rw[←hx,List.getElem?_take,if_pos (by omega)]at h1
  have hw:w.cell? (((⟨g,0,none⟩:Addr).add i))=some (.int .u64 (d:Int)):=World.news_of_block hg i _ h1;rw[Nat.zero_add];have ha:(⟨g,0,none⟩:Addr).add i=⟨g,i,none⟩:=by unfold Addr.add;split<;>simp_all
  rw[ha]at hw
  exact hw
theorem qh {w:World} {base:Nat} {e:TypeId} {size n:Nat} {v:Value} {xs:List Value} (h:w.ownsRow base e size v n xs):∃x c,v=.slice x n c:=by
 rcases h with⟨hl,(⟨rfl,h0⟩|⟨g,cap,cur,rfl,rest⟩)⟩
 ·exact⟨none,0,by rw[h0]⟩
 ·exact⟨_,_,rfl⟩
theorem Ji.fr {w w':World} {v:Value} {L:List Nat} (h:Ji w v L) (hf:Fr [] w w'):Ji w' v L:=by
 obtain⟨x,c,rfl,hc,h⟩:=h
 refine⟨x,c,rfl,hc,fun hn=>?_⟩;obtain⟨g,o,hx,hcell⟩:=h hn
 exact⟨g,o,hx,fun i d hi=>hf.cell (hcell i d hi) (by simp)⟩
def SV (r:Except Int Int):Value:=match r with | .ok b=>.tuple #[.int .u64 b,.int .i64 0] | .error c=>.tuple #[.int .u64 0,.int .i64 c]
theorem mM (l:List Nat) (p:Nat) (s:Bytes) (ok:Bool) (h:ok=false∨[112].isPrefixOf s=false∨s.length<3∨7<s.length):dF ok l p s=.error 20:=by
 unfold dF;split
 ·rename_i sg d;rw[if_pos];rcases h with rfl|h|h|h
  ·rfl
  ·simp[List.isPrefixOf]at h
  ·have:d=[]:=List.eq_nil_of_length_eq_zero (by simp at h;omega)
   subst this;simp[digits]
  ·simp at h;simp;omega
 ·rfl
def sgn (neg:Bool) (r:Except Int Int):Except Int Int:=match r with | .ok b=>.ok (if neg then 9223372036854775808+b else b) | .error e=>.error e
theorem nU (neg:Bool) (e:Int):sgn neg (.error e)=.error e:=rfl
theorem UZ (s:Bytes) (h64:s.length≤64) (h1:(s==[110,97,110])=false) (h2:(s==[105,110,102])=false) (h3:(s==[45,105,110,102])=false) :
  bD s=sgn ([45].isPrefixOf s) (pU ([48,120].isPrefixOf (minus s)) (rV (minus s))):=by
 rw[zG s h64 h1 h2 h3];unfold sgn;rfl
theorem Gf (ok:Bool) (s:Bytes) (h:[46].isPrefixOf (cut s).2=false):pU ok s=dF (ok && !(cut s).1.isEmpty) (cut s).1 0 (cut s).2:=by
 unfold pU;split
 ·rename_i r hr;rw[hr]at h;simp[List.isPrefixOf]at h
 ·rfl
theorem Gg (ok:Bool) (s r:Bytes) (h:(cut s).2=46::r):pU ok s=dF (ok && !(cut s).1.isEmpty && !(cut r).1.isEmpty) ((cut s).1++(cut r).1) (cut r).1.length (cut r).2:=by
 unfold pU;split
 ·rename_i r' hr;rw[h]at hr
  obtain rfl:=(List.cons.inj hr).2;rfl
 ·rename_i hn;exact absurd h (hn r)
theorem tu (l:List Nat) (p:Nat) (sg:UInt8) (d:Bytes) (hd:digits d=true) (hl:d.length≤5) (hsg:sg=43∨sg=45) :
  dF true l p (112::sg::d)=match exact l (Cn sg d-4*(p:Int)) with|some b=>.ok b|none=>.error 21:=by
 unfold dF;simp only;rw[if_neg (by rcases hsg with rfl|rfl<;>simp[hd]<;>omega)];rfl
theorem Cq (l:List Nat) (p:Nat) (sg:UInt8) (d:Bytes) (h1:(sg==43)=false) (h2:(sg==45)=false):dF true l p (112::sg::d)=.error 20:=by
 unfold dF;simp only;rw[if_pos (by simp[bne,h1,h2])]
theorem qJ (l:List Nat) (p:Nat) (sg:UInt8) (d:Bytes) (h:digits d=false):dF true l p (112::sg::d)=.error 20:=by
 unfold dF;simp only;rw[if_pos (by simp[h])]
def Z4 (s:Bytes) (neg:Bool) (w:World) (vs vok vl vpt:Value) (W:World):Prop :=
 ∃(S3:Bytes) (okb:Bool) (LL:List Nat) (x:Option Addr) (c p:Nat),vs=.string ⟨S3.toArray⟩∧vok=.bool okb∧vl=.slice x LL.length c∧vpt=.int .i64 p ∧
  Hid (bD s=sgn neg (dF okb LL p S3))∧S3.length≤64∧p≤64∧LL.length≤100∧(∀x∈LL,x<16)∧Fr [] w W∧Hid (Ji W (.slice x LL.length c) LL)
end Go.Proofs.YtoomapkcoibmhaaGreatDoor
end
