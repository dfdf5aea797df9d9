/- Which texts are right: tabularef02.IsText, val.text, tabularef03.text; the law's Text. -/
import Derived.Test.YtmhfioimgllgeaaGreatDoorQ17
import Derived.Test.YtmhfioimgllgeaaGreatDoorQ10
import Derived.Test.YtmhfioimgllgeaaGreatDoorQ02
import Derived.Test.YtmhfioimgllgeaaGreatDoorQ18
import Derived.Lib.Hide
namespace Go.Proofs.YtmhfioimgllgeaaGreatDoor
open Go Go.RowKit Go.Shelf
theorem drop_ext (s:ByteArray) (K:Nat):(s.extract K s.size).data.toList=s.data.toList.drop K:=by
 rw[Lib.extract_data,List.take_of_length_le (by rw[List.length_drop,←Lib.size_eq];omega)]
theorem idx_pred (w:World):PredAt Tryz.prog 224 #[] encR oddR w:=fun W r _=>by
 unfold FnGives
 by_cases h:r<32
 ·have h1:(r:Int)<32:=by omega
  have HO:Hid (oddR r=true):=by show _=_;unfold oddR;simp[h]
  clear h
  go_enter Tryz.func224,Tryz.ntmps224
  go_wp2
  go_ret
  exact⟨ret_bool HO.out.symm,0,rfl⟩
 ·have h1:¬(r:Int)<32:=by omega
  by_cases h2:r=127
  ·have h3:((r:Int)==127)=true:=by rw[beq_iff_eq];omega
   have HO:Hid (oddR r=true):=by show _=_;unfold oddR;simp[h2]
   clear h h2
   go_enter Tryz.func224,Tryz.ntmps224
   go_wp2
   go_ret
   exact⟨ret_bool HO.out.symm,0,rfl⟩
  ·have h3:((r:Int)==127)=false:=by rw[beq_eq_false_iff_ne];omega
   have HO:Hid (oddR r=false):=by show _=_;unfold oddR;simp[h,h2]
   clear h h2
   go_enter Tryz.func224,Tryz.ntmps224
   go_wp2
   go_ret
   exact⟨ret_bool HO.out.symm,0,rfl⟩
set_option maxHeartbeats 2000000 in
theorem vtext_any (s:ByteArray) (w:World) (hs:s.size≤4294967280) (hT:Lib.Utf8Tabs 2 3 w):Calls Tryz.prog 101 #[.string s] w (Gives (.bool (txtOk s)) w):=by
 have hb:=txt_both s
 by_cases h:s.size≤200
 ·have hI:(s.size:Int)≤200:=by omega
  have cV:=Any.utf8_ValidString Tryz.lays196 s w (by omega) hT
  cases hv:Lib.validD s.data.toList with
  |false=>
   have HO:Hid (txtOk s=false):=by show _=_;unfold txtOk;rw[←hb,hv];simp
   rw[hv]at cV
   have CV:=Lib.hid cV
   clear cV hv hb
   go_enter Tryz.func101,Tryz.ntmps101
   go_wp2_with (go_at_call 225;refine CV.out.mono ?_;rintro e w1 ⟨rfl,hB⟩)
   go_ret
   exact⟨ret_bool HO.out.symm,hB⟩
  |true=>
   rw[hv]at cV
   have CV:=Lib.hid cV
   have CC:=Lib.hid (show ∀W,Calls Tryz.prog 226 #[.string s,.func (.func 224) #[] #[]] W fun e w'=>e= .returned (.bool (decide (0≤Lib.idxFunc oddR true s)))∧Below W.heap.size W w' from fun W=>Tryz.strings_ContainsFunc 224 #[] (enters_of Tryz.func224 (by kernel_rfl) rfl) oddR s W (idx_pred W))
   have HO:Hid (txtOk s= !decide (0≤Lib.idxFunc oddR true s)):=by show _=_;unfold txtOk;rw[←hb,hv];simp[h]
   clear cV hv hb
   generalize decide (0≤Lib.idxFunc oddR true s)=r at CC HO
   go_enter Tryz.func101,Tryz.ntmps101
   go_wp2_with (first|(go_at_call 225;refine CV.out.mono ?_;rintro e w1 ⟨rfl,hB⟩)|(go_at_call 226;refine(CC.out _).mono ?_;rintro e w2 ⟨rfl,hB2⟩))
   go_ret
   exact⟨ret_bool HO.out.symm,hB.trans (hB2.mono hB.size)⟩
 ·have hI:¬(s.size:Int)≤200:=by omega
  have HO:Hid (txtOk s=false):=by show _=_;unfold txtOk;simp[h]
  clear hb
  go_enter Tryz.func101,Tryz.ntmps101
  go_wp2_with fail
  go_ret
  exact⟨ret_bool HO.out.symm,Below.refl _ _⟩
end Go.Proofs.YtmhfioimgllgeaaGreatDoor
