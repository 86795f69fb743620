/- A part of the proof. -/
import Derived.Test.YtoomapkcoibmhaaGreatDoorQ10
set_option maxRecDepth 100000
set_option maxHeartbeats 12800000
set_option linter.all false
section
open Go Go.Proofs Go.RowKit Ck
namespace Go.Proofs.YtoomapkcoibmhaaGreatDoor
theorem lret_parts (r:LR):∃(k a:Int) (t:Bytes) (i b n c:Int),lret r=.tuple #[.agg #[.int .i64 k,.int .i64 a,.string ⟨t.toArray⟩,.int .i64 i,.int .u64 b],.int .i64 n,.int .i64 c]:=by
 cases r with
 | ok p=>exact⟨_,_,_,_,_,p.2,0,rfl⟩
 | error c=>exact⟨0,0,[],0,0,0,c,rfl⟩
theorem next_lower (c:UInt8) (r:Bytes) (w:World) (hV:Vars w) (hs:(c::r).length≤100000) (hl:lower c=true) :
 Calls Tryz.prog 71 #[.string ⟨(c::r).toArray⟩] w (fun e w'=>e=.returned (lret (lexNext (c::r)))∧Fr [] w w'):=by
 have hs':(c::r).length≤140737488351232:=by omega
 have HF:Hid (lexNext (c::r)=lexName (c::r)):=by
  show _=_;simp only[lexNext,hl,if_true]<;>rfl
 obtain⟨k,a,t,i,b,n,e',hp⟩:=lret_parts (lexName (c::r))
 have HP:=Lib.hid hp;have HL:=Lib.hid hl;clear hp hl
 go_enter Tryz.func71,Tryz.ntmps71
 go_wp2_with (first|(go_at_call 95;refine(lower_any c _).mono ?_;rintro e w' ⟨rfl,rfl⟩;rw[HL.out])|(go_at_call 96;refine(name_any (c::r) _ (hV.fr ((Fr.refl [] _).alloc _) (by simp)) hs').mono ?_;rintro e w1 ⟨rfl,hf⟩;rw[HP.out];obtain⟨hc,hz,hset,hb⟩:=((Blk.new w _ _).fr hf (by simp)).rules))
 refine bodyPost_ret (v:=lret (lexNext (c::r))) (by rw[HF.out,HP.out];simp[results,Tryz.results71,go_sem,hb]) rfl ⟨rfl,?_⟩
 repeat (first|exact((Fr.refl _ _).alloc _).trans hf|refine Fr.blk ?_ (.inr (by simp)) _ _)
theorem next_hex (c:UInt8) (r:Bytes) (w:World) (hV:Vars w) (hs:(c::r).length≤100000) (hl:lower c=false) (hx:[48,120].isPrefixOf (c::r)=true) :
 Calls Tryz.prog 71 #[.string ⟨(c::r).toArray⟩] w (fun e w'=>e=.returned (lret (lexNext (c::r)))∧Fr [] w w'):=by
 have hs':(c::r).length≤140737488351232:=by omega
 have h2:2≤(c::r).length:=by
  have:=(List.isPrefixOf_iff_prefix.1 hx).length_le
  simpa using this
 have HF:Hid (lexNext (c::r)=lexDouble (c::r)):=by
  show _=_;simp only[lexNext,hl,hx]<;>rfl
 obtain⟨k,a,t,i,b,n,e',hp⟩:=lret_parts (lexDouble (c::r))
 have HP:=Lib.hid hp;have HL:=Lib.hid hl;have HX:=Lib.hid hx;clear hp hl hx
 go_enter Tryz.func71,Tryz.ntmps71
 go_wp2_with (first|(go_at_call 95;refine(lower_any c _).mono ?_;rintro e w' ⟨rfl,rfl⟩;rw[HL.out])|(go_at_call 97;refine(hasPrefix_any (c::r) [48,120] _).mono ?_;rintro e w' ⟨rfl,rfl⟩;rw[HX.out])|(go_at_call 98;refine(double_any (c::r) _ (hV.fr ((Fr.refl [] _).alloc _) (by simp)) hs' h2).mono ?_;rintro e w1 ⟨rfl,hf⟩;rw[HP.out];obtain⟨hc,hz,hset,hb⟩:=((Blk.new w _ _).fr hf (by simp)).rules))
 refine bodyPost_ret (v:=lret (lexNext (c::r))) (by rw[HF.out,HP.out];simp[results,Tryz.results71,go_sem,hb]) rfl ⟨rfl,?_⟩
 repeat (first|exact((Fr.refl _ _).alloc _).trans hf|refine Fr.blk ?_ (.inr (by simp)) _ _)
theorem next_digit (c:UInt8) (r:Bytes) (w:World) (hV:Vars w) (hs:(c::r).length≤100000) (hl:lower c=false) (hx:[48,120].isPrefixOf (c::r)=false) (hd:digit c=true) :
 Calls Tryz.prog 71 #[.string ⟨(c::r).toArray⟩] w (fun e w'=>e=.returned (lret (lexNext (c::r)))∧Fr [] w w'):=by
 have hs':(c::r).length≤140737488351232:=by omega
 have HF:Hid (lexNext (c::r)=lexWhole (c::r)):=by
  show _=_;simp only[lexNext,hl,hx,hd]<;>rfl
 obtain⟨k,a,t,i,b,n,e',hp⟩:=lret_parts (lexWhole (c::r))
 have HP:=Lib.hid hp;have HL:=Lib.hid hl;have HX:=Lib.hid hx;have HD:=Lib.hid hd;clear hp hl hx hd
 go_enter Tryz.func71,Tryz.ntmps71
 go_wp2_with (first|(go_at_call 95;refine(lower_any c _).mono ?_;rintro e w' ⟨rfl,rfl⟩;rw[HL.out])|(go_at_call 97;refine(hasPrefix_any (c::r) [48,120] _).mono ?_;rintro e w' ⟨rfl,rfl⟩;rw[HX.out])|(go_at_call 99;refine(digit_any c _).mono ?_;rintro e w' ⟨rfl,rfl⟩;rw[HD.out])|(go_at_call 100;refine(whole_any (c::r) _ (hV.fr ((Fr.refl [] _).alloc _) (by simp)) hs').mono ?_;rintro e w1 ⟨rfl,hf⟩;rw[HP.out];obtain⟨hc,hz,hset,hb⟩:=((Blk.new w _ _).fr hf (by simp)).rules))
 refine bodyPost_ret (v:=lret (lexNext (c::r))) (by rw[HF.out,HP.out];simp[results,Tryz.results71,go_sem,hb]) rfl ⟨rfl,?_⟩
 repeat (first|exact((Fr.refl _ _).alloc _).trans hf|refine Fr.blk ?_ (.inr (by simp)) _ _)
theorem next_quote (c:UInt8) (r:Bytes) (w:World) (hs:(c::r).length≤100000) (hl:lower c=false) (hx:[48,120].isPrefixOf (c::r)=false) (hd:digit c=false) (hq:((c.toNat:Int)==34)=true) :
 Calls Tryz.prog 71 #[.string ⟨(c::r).toArray⟩] w (fun e w'=>e=.returned (lret (lexNext (c::r)))∧Fr [] w w'):=by
 have hs':(c::r).length≤140737488351232:=by omega
 have hq':(c==34)=true:=by rw[←u8b c 34 34 rfl];exact hq
 have HF:Hid (lexNext (c::r)=lexQ (c::r)):=by
  show _=_;simp only[lexNext,hl,hx,hd,hq']<;>rfl
 obtain⟨k,a,t,i,b,n,e',hp⟩:=lret_parts (lexQ (c::r))
 have HP:=Lib.hid hp;have HL:=Lib.hid hl;have HX:=Lib.hid hx;have HD:=Lib.hid hd;clear hp hl hx hd hq'
 go_enter Tryz.func71,Tryz.ntmps71
 go_wp2_with (first|(go_at_call 95;refine(lower_any c _).mono ?_;rintro e w' ⟨rfl,rfl⟩;rw[HL.out])|(go_at_call 97;refine(hasPrefix_any (c::r) [48,120] _).mono ?_;rintro e w' ⟨rfl,rfl⟩;rw[HX.out])|(go_at_call 99;refine(digit_any c _).mono ?_;rintro e w' ⟨rfl,rfl⟩;rw[HD.out])|(go_at_call 101;refine(quoted_any (c::r) _ hs (by simp)).mono ?_;rintro e w1 ⟨rfl,hf⟩;rw[HP.out];obtain⟨hc,hz,hset,hb⟩:=((Blk.new w _ _).fr hf (by simp)).rules))
 refine bodyPost_ret (v:=lret (lexNext (c::r))) (by rw[HF.out,HP.out];simp[results,Tryz.results71,go_sem,hb]) rfl ⟨rfl,?_⟩
 repeat (first|exact((Fr.refl _ _).alloc _).trans hf|refine Fr.blk ?_ (.inr (by simp)) _ _)
theorem next_mark (c:UInt8) (r:Bytes) (w:World) (hs:(c::r).length≤100000) (hl:lower c=false) (hx:[48,120].isPrefixOf (c::r)=false) (hd:digit c=false) (hq:((c.toNat:Int)==34)=false) :
 Calls Tryz.prog 71 #[.string ⟨(c::r).toArray⟩] w (fun e w'=>e=.returned (lret (lexNext (c::r)))∧Fr [] w w'):=by
 have hs':(c::r).length≤140737488351232:=by omega
 have hq':(c==34)=false:=by rw[←u8b c 34 34 rfl];exact hq
 have HF:Hid (lexNext (c::r)=lexMark (c::r)):=by
  show _=_;simp only[lexNext,hl,hx,hd,hq']<;>rfl
 obtain⟨k,a,t,i,b,n,e',hp⟩:=lret_parts (lexMark (c::r))
 have HP:=Lib.hid hp;have HL:=Lib.hid hl;have HX:=Lib.hid hx;have HD:=Lib.hid hd;clear hp hl hx hd hq'
 go_enter Tryz.func71,Tryz.ntmps71
 go_wp2_with (first|(go_at_call 95;refine(lower_any c _).mono ?_;rintro e w' ⟨rfl,rfl⟩;rw[HL.out])|(go_at_call 97;refine(hasPrefix_any (c::r) [48,120] _).mono ?_;rintro e w' ⟨rfl,rfl⟩;rw[HX.out])|(go_at_call 99;refine(digit_any c _).mono ?_;rintro e w' ⟨rfl,rfl⟩;rw[HD.out])|(go_at_call 102;refine(mark_any (c::r) _).mono ?_;rintro e w1 ⟨rfl,hf⟩;rw[HP.out];obtain⟨hc,hz,hset,hb⟩:=((Blk.new w _ _).fr hf (by simp)).rules))
 refine bodyPost_ret (v:=lret (lexNext (c::r))) (by rw[HF.out,HP.out];simp[results,Tryz.results71,go_sem,hb]) rfl ⟨rfl,?_⟩
 repeat (first|exact((Fr.refl _ _).alloc _).trans hf|refine Fr.blk ?_ (.inr (by simp)) _ _)
theorem next_any (c:UInt8) (r:Bytes) (w:World) (hV:Vars w) (hs:(c::r).length≤100000) :
 Calls Tryz.prog 71 #[.string ⟨(c::r).toArray⟩] w (fun e w'=>e=.returned (lret (lexNext (c::r)))∧Fr [] w w'):=by
 cases hl:lower c
 ·cases hx:[48,120].isPrefixOf (c::r)
  ·cases hd:digit c
   ·cases hq:((c.toNat:Int)==34)
    ·exact next_mark c r w hs hl hx hd hq
    ·exact next_quote c r w hs hl hx hd hq
   ·exact next_digit c r w hV hs hl hx hd
  ·exact next_hex c r w hV hs hl hx
 ·exact next_lower c r w hV hs hl
end Go.Proofs.YtoomapkcoibmhaaGreatDoor
end
