/- A part of the proof. -/
import Derived.Test.YtoomapkcoibmhaaGreatDoorQ11
set_option maxRecDepth 100000
set_option maxHeartbeats 12800000
set_option linter.all false
section
open Go Go.Proofs Go.RowKit Ck
namespace Go.Proofs.YtoomapkcoibmhaaGreatDoor
theorem om (r:LR):∃(k a:Int) (t:Bytes) (i b n c:Int),dB r=.tuple #[.agg #[.int .i64 k,.int .i64 a,.string ⟨t.toArray⟩,.int .i64 i,.int .u64 b],.int .i64 n,.int .i64 c]:=by
 cases r with
 | ok p=>exact⟨_,_,_,_,_,p.2,0,rfl⟩
 | error c=>exact⟨0,0,[],0,0,0,c,rfl⟩
theorem Js (c:UInt8) (r:Bytes) (w:World) (hV:Vars w) (hs:(c::r).length≤100000) (hl:lower c=true) :
 Calls Tryz.prog 71 #[.string ⟨(c::r).toArray⟩] w (fun e w'=>e=.returned (dB (bM (c::r)))∧Fr [] w w'):=by
 have hs':(c::r).length≤140737488351232:=by omega
 have HF:Hid (bM (c::r)=gq (c::r)):=by
  show _=_;simp only[bM,hl,if_true]<;>rfl
 obtain⟨k,a,t,i,b,n,e',hp⟩:=om (gq (c::r))
 have HP:=Lib.hid hp;have HL:=Lib.hid hl;clear hp hl;go_enter Tryz.func71,Tryz.ntmps71
 go_wp2_with (first|(go_at_call 95;refine(nV c _).mono ?_;rintro e w' ⟨rfl,rfl⟩;rw[HL.out])|(go_at_call 96;refine(Ov (c::r) _ (hV.fr ((Fr.refl [] _).alloc _) (by simp)) hs').mono ?_;rintro e w1 ⟨rfl,hf⟩;rw[HP.out];obtain⟨hc,hz,hset,hb⟩:=((au.new w _ _).fr hf (by simp)).rules))
 refine bodyPost_ret (v:=dB (bM (c::r))) (by rw[HF.out,HP.out];simp[results,Tryz.results71,go_sem,hb]) rfl ⟨rfl,?_⟩
 repeat (first|exact((Fr.refl _ _).alloc _).trans hf|refine Fr.blk ?_ (.inr (by simp)) _ _)
theorem OD (c:UInt8) (r:Bytes) (w:World) (hV:Vars w) (hs:(c::r).length≤100000) (hl:lower c=false) (hx:[48,120].isPrefixOf (c::r)=true) :
 Calls Tryz.prog 71 #[.string ⟨(c::r).toArray⟩] w (fun e w'=>e=.returned (dB (bM (c::r)))∧Fr [] w w'):=by
 have hs':(c::r).length≤140737488351232:=by omega
 have h2:2≤(c::r).length:=by
  have:=(List.isPrefixOf_iff_prefix.1 hx).length_le
  simpa using this
 have HF:Hid (bM (c::r)=aP (c::r)):=by
  show _=_;simp only[bM,hl,hx]<;>rfl
 obtain⟨k,a,t,i,b,n,e',hp⟩:=om (aP (c::r))
 have HP:=Lib.hid hp;have HL:=Lib.hid hl;have HX:=Lib.hid hx;clear hp hl hx;go_enter Tryz.func71,Tryz.ntmps71
 go_wp2_with (first|(go_at_call 95;refine(nV c _).mono ?_;rintro e w' ⟨rfl,rfl⟩;rw[HL.out])|(go_at_call 97;refine(ji (c::r) [48,120] _).mono ?_;rintro e w' ⟨rfl,rfl⟩;rw[HX.out])|(go_at_call 98;refine(Jp (c::r) _ (hV.fr ((Fr.refl [] _).alloc _) (by simp)) hs' h2).mono ?_;rintro e w1 ⟨rfl,hf⟩;rw[HP.out];obtain⟨hc,hz,hset,hb⟩:=((au.new w _ _).fr hf (by simp)).rules))
 refine bodyPost_ret (v:=dB (bM (c::r))) (by rw[HF.out,HP.out];simp[results,Tryz.results71,go_sem,hb]) rfl ⟨rfl,?_⟩
 repeat (first|exact((Fr.refl _ _).alloc _).trans hf|refine Fr.blk ?_ (.inr (by simp)) _ _)
theorem Jt (c:UInt8) (r:Bytes) (w:World) (hV:Vars w) (hs:(c::r).length≤100000) (hl:lower c=false) (hx:[48,120].isPrefixOf (c::r)=false) (hd:digit c=true) :
 Calls Tryz.prog 71 #[.string ⟨(c::r).toArray⟩] w (fun e w'=>e=.returned (dB (bM (c::r)))∧Fr [] w w'):=by
 have hs':(c::r).length≤140737488351232:=by omega
 have HF:Hid (bM (c::r)=jD (c::r)):=by
  show _=_;simp only[bM,hl,hx,hd]<;>rfl
 obtain⟨k,a,t,i,b,n,e',hp⟩:=om (jD (c::r))
 have HP:=Lib.hid hp;have HL:=Lib.hid hl;have HX:=Lib.hid hx;have HD:=Lib.hid hd;clear hp hl hx hd;go_enter Tryz.func71,Tryz.ntmps71
 go_wp2_with (first|(go_at_call 95;refine(nV c _).mono ?_;rintro e w' ⟨rfl,rfl⟩;rw[HL.out])|(go_at_call 97;refine(ji (c::r) [48,120] _).mono ?_;rintro e w' ⟨rfl,rfl⟩;rw[HX.out])|(go_at_call 99;refine(kP c _).mono ?_;rintro e w' ⟨rfl,rfl⟩;rw[HD.out])|(go_at_call 100;refine(Mx (c::r) _ (hV.fr ((Fr.refl [] _).alloc _) (by simp)) hs').mono ?_;rintro e w1 ⟨rfl,hf⟩;rw[HP.out];obtain⟨hc,hz,hset,hb⟩:=((au.new w _ _).fr hf (by simp)).rules))
 refine bodyPost_ret (v:=dB (bM (c::r))) (by rw[HF.out,HP.out];simp[results,Tryz.results71,go_sem,hb]) rfl ⟨rfl,?_⟩
 repeat (first|exact((Fr.refl _ _).alloc _).trans hf|refine Fr.blk ?_ (.inr (by simp)) _ _)
theorem Ju (c:UInt8) (r:Bytes) (w:World) (hs:(c::r).length≤100000) (hl:lower c=false) (hx:[48,120].isPrefixOf (c::r)=false) (hd:digit c=false) (hq:((c.toNat:Int)==34)=true) :
 Calls Tryz.prog 71 #[.string ⟨(c::r).toArray⟩] w (fun e w'=>e=.returned (dB (bM (c::r)))∧Fr [] w w'):=by
 have hs':(c::r).length≤140737488351232:=by omega
 have hq':(c==34)=true:=by rw[←u8b c 34 34 rfl];exact hq
 have HF:Hid (bM (c::r)=mY (c::r)):=by
  show _=_;simp only[bM,hl,hx,hd,hq']<;>rfl
 obtain⟨k,a,t,i,b,n,e',hp⟩:=om (mY (c::r))
 have HP:=Lib.hid hp;have HL:=Lib.hid hl;have HX:=Lib.hid hx;have HD:=Lib.hid hd;clear hp hl hx hd hq';go_enter Tryz.func71,Tryz.ntmps71
 go_wp2_with (first|(go_at_call 95;refine(nV c _).mono ?_;rintro e w' ⟨rfl,rfl⟩;rw[HL.out])|(go_at_call 97;refine(ji (c::r) [48,120] _).mono ?_;rintro e w' ⟨rfl,rfl⟩;rw[HX.out])|(go_at_call 99;refine(kP c _).mono ?_;rintro e w' ⟨rfl,rfl⟩;rw[HD.out])|(go_at_call 101;refine(Jr (c::r) _ hs (by simp)).mono ?_;rintro e w1 ⟨rfl,hf⟩;rw[HP.out];obtain⟨hc,hz,hset,hb⟩:=((au.new w _ _).fr hf (by simp)).rules))
 refine bodyPost_ret (v:=dB (bM (c::r))) (by rw[HF.out,HP.out];simp[results,Tryz.results71,go_sem,hb]) rfl ⟨rfl,?_⟩
 repeat (first|exact((Fr.refl _ _).alloc _).trans hf|refine Fr.blk ?_ (.inr (by simp)) _ _)
theorem ME (c:UInt8) (r:Bytes) (w:World) (hs:(c::r).length≤100000) (hl:lower c=false) (hx:[48,120].isPrefixOf (c::r)=false) (hd:digit c=false) (hq:((c.toNat:Int)==34)=false) :
 Calls Tryz.prog 71 #[.string ⟨(c::r).toArray⟩] w (fun e w'=>e=.returned (dB (bM (c::r)))∧Fr [] w w'):=by
 have hs':(c::r).length≤140737488351232:=by omega
 have hq':(c==34)=false:=by rw[←u8b c 34 34 rfl];exact hq
 have HF:Hid (bM (c::r)=jv (c::r)):=by
  show _=_;simp only[bM,hl,hx,hd,hq']<;>rfl
 obtain⟨k,a,t,i,b,n,e',hp⟩:=om (jv (c::r))
 have HP:=Lib.hid hp;have HL:=Lib.hid hl;have HX:=Lib.hid hx;have HD:=Lib.hid hd;clear hp hl hx hd hq';go_enter Tryz.func71,Tryz.ntmps71
 go_wp2_with (first|(go_at_call 95;refine(nV c _).mono ?_;rintro e w' ⟨rfl,rfl⟩;rw[HL.out])|(go_at_call 97;refine(ji (c::r) [48,120] _).mono ?_;rintro e w' ⟨rfl,rfl⟩;rw[HX.out])|(go_at_call 99;refine(kP c _).mono ?_;rintro e w' ⟨rfl,rfl⟩;rw[HD.out])|(go_at_call 102;refine(Ou (c::r) _).mono ?_;rintro e w1 ⟨rfl,hf⟩;rw[HP.out];obtain⟨hc,hz,hset,hb⟩:=((au.new w _ _).fr hf (by simp)).rules))
 refine bodyPost_ret (v:=dB (bM (c::r))) (by rw[HF.out,HP.out];simp[results,Tryz.results71,go_sem,hb]) rfl ⟨rfl,?_⟩
 repeat (first|exact((Fr.refl _ _).alloc _).trans hf|refine Fr.blk ?_ (.inr (by simp)) _ _)
theorem OE (c:UInt8) (r:Bytes) (w:World) (hV:Vars w) (hs:(c::r).length≤100000) :
 Calls Tryz.prog 71 #[.string ⟨(c::r).toArray⟩] w (fun e w'=>e=.returned (dB (bM (c::r)))∧Fr [] w w'):=by
 cases hl:lower c
 ·cases hx:[48,120].isPrefixOf (c::r)
  ·cases hd:digit c
   ·cases hq:((c.toNat:Int)==34)
    ·exact ME c r w hs hl hx hd hq
    ·exact Ju c r w hs hl hx hd hq
   ·exact Jt c r w hV hs hl hx hd
  ·exact OD c r w hV hs hl hx
 ·exact Js c r w hV hs hl
end Go.Proofs.YtoomapkcoibmhaaGreatDoor
end
