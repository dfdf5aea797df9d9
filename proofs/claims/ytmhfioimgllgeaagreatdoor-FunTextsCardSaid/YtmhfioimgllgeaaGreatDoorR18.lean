/- Merged: Tx, Pur. -/
import Derived.Test.YtmhfioimgllgeaaGreatDoorR15
import Derived.Test.YtmhfioimgllgeaaGreatDoorR16
import Derived.Test.YtmhfioimgllgeaaGreatDoorR17
import Derived.Lib.SmallJoins
namespace Go.Proofs.YtmhfioimgllgeaaGreatDoor
open Go Go.RowKit Go.Shelf
theorem drop_ext (s:ByteArray) (K:Nat):(s.extract K s.size).data.toList=s.data.toList.drop K:=by
 rw[Lib.extract_data,List.take_of_length_le (by rw[List.length_drop,←Lib.size_eq];omega)]
theorem drop_head (s:ByteArray) {K:Nat} (h:K<s.size):(s.data.toList.drop K).getD 0 0=s[K]'h:=by
 rw[←at_getD s h]
 simp[List.getD_eq_getElem?_getD]
theorem drop_ne (s:ByteArray) {K:Nat} (h:K<s.size):s.data.toList.drop K≠ []:=by
 intro e
 have:=congrArg List.length e
 rw[List.length_drop,←Lib.size_eq]at this
 simp at this
 omega
theorem odd_cases (c:UInt8):(oddB c=false∧32≤c.toNat∧c.toNat≠127)∨(oddB c=true∧c.toNat<32)∨(oddB c=true∧c.toNat=127):=by
 unfold oddB
 by_cases h:c.toNat<32
 ·right;left;simp[h]
 ·by_cases h2:c.toNat=127
  ·right;right;simp[h2]
  ·left;simp[h,h2];omega
theorem sign_at (s:ByteArray) (K n:Nat) (w:World) (hs:s.size≤9223372036854775807) (hn:Hid (sgnL (s.data.toList.drop K)=n)):
 Calls Tryz.prog 57 #[.string (s.extract K s.size)] w fun e w'=>e= .returned (.int .i64 (n:Int))∧w'=w:=by
 have h:=sign_any (s.extract K s.size) w (by rw[ByteArray.size_extract];omega)
 rw[drop_ext,hn.out]at h
 exact h
theorem idx_pred (w:World):PredAt Tryz.prog 224 #[] encR oddR w:=fun W r _=>by
 unfold FnGives
 by_cases h:r<32
 ·have h1:(r:Int)<32:=by omega
  have HO:Hid (oddR r=true):=by show _=_;unfold oddR;simp[h]
  clear h
  go_enter Tryz.func224,Tryz.ntmps224
  go_wp2
  go_ret
  exact⟨ret_bool HO.out.symm,0,rfl⟩
 ·have h1:¬(r:Int)<32:=by omega
  by_cases h2:r=127
  ·have h3:((r:Int)==127)=true:=by rw[beq_iff_eq];omega
   have HO:Hid (oddR r=true):=by show _=_;unfold oddR;simp[h2]
   clear h h2
   go_enter Tryz.func224,Tryz.ntmps224
   go_wp2
   go_ret
   exact⟨ret_bool HO.out.symm,0,rfl⟩
  ·have h3:((r:Int)==127)=false:=by rw[beq_eq_false_iff_ne];omega
   have HO:Hid (oddR r=false):=by show _=_;unfold oddR;simp[h,h2]
   clear h h2
   go_enter Tryz.func224,Tryz.ntmps224
   go_wp2
   go_ret
   exact⟨ret_bool HO.out.symm,0,rfl⟩
set_option maxHeartbeats 2000000 in
theorem vtext_any (s:ByteArray) (w:World) (hs:s.size≤4294967280) (hT:Lib.Utf8Tabs 2 3 w):Calls Tryz.prog 101 #[.string s] w (Gives (.bool (txtOk s)) w):=by
 have hb:=txt_both s
 by_cases h:s.size≤200
 ·have hI:(s.size:Int)≤200:=by omega
  have cV:=Any.utf8_ValidString Tryz.lays196 s w (by omega) hT
  cases hv:Lib.validD s.data.toList with
  |false=>
   have HO:Hid (txtOk s=false):=by show _=_;unfold txtOk;rw[←hb,hv];simp
   rw[hv]at cV
   have CV:=Lib.hid cV
   clear cV hv hb
   go_enter Tryz.func101,Tryz.ntmps101
   go_wp2_with (go_at_call 225;refine CV.out.mono ?_;rintro e w1 ⟨rfl,hB⟩)
   go_ret
   exact⟨ret_bool HO.out.symm,hB⟩
  |true=>
   rw[hv]at cV
   have CV:=Lib.hid cV
   have CC:=Lib.hid (show ∀W,Calls Tryz.prog 226 #[.string s,.func (.func 224) #[] #[]] W fun e w'=>e= .returned (.bool (decide (0≤Lib.idxFunc oddR true s)))∧Below W.heap.size W w' from fun W=>Tryz.strings_ContainsFunc 224 #[] (enters_of Tryz.func224 (by kernel_rfl) rfl) oddR s W (idx_pred W))
   have HO:Hid (txtOk s= !decide (0≤Lib.idxFunc oddR true s)):=by show _=_;unfold txtOk;rw[←hb,hv];simp[h]
   clear cV hv hb
   generalize decide (0≤Lib.idxFunc oddR true s)=r at CC HO
   go_enter Tryz.func101,Tryz.ntmps101
   go_wp2_with (first|(go_at_call 225;refine CV.out.mono ?_;rintro e w1 ⟨rfl,hB⟩)|(go_at_call 226;refine(CC.out _).mono ?_;rintro e w2 ⟨rfl,hB2⟩))
   go_ret
   exact⟨ret_bool HO.out.symm,hB.trans (hB2.mono hB.size)⟩
 ·have hI:¬(s.size:Int)≤200:=by omega
  have HO:Hid (txtOk s=false):=by show _=_;unfold txtOk;simp[h]
  clear hb
  go_enter Tryz.func101,Tryz.ntmps101
  go_wp2_with fail
  go_ret
  exact⟨ret_bool HO.out.symm,Below.refl _ _⟩
end Go.Proofs.YtmhfioimgllgeaaGreatDoor
namespace Go.Proofs.YtmhfioimgllgeaaGreatDoor
open Go Go.RowKit Go.Shelf
def pureO (l out:List UInt8):List UInt8:=pureF l.length l out
theorem pureO_end {l out:List UInt8} (h:l= []∨37≤out.length):pureO l out=out:=pureF_end h _
theorem pureO_step {l out:List UInt8} (h:l≠ []) (ho:out.length<37):pureO l out=if sgnL l=0∨oddB (l.getD 0 0)=true then pureO (l.drop 1) out else pureO (l.drop (sgnL l)) (out++l.take (sgnL l)):=by
 obtain⟨b,t,rfl⟩:∃b t,l=b :: t:=by cases l with|nil=>exact absurd rfl h|cons b t=>exact⟨b,t,rfl⟩
 show pureF (t.length+1) (b :: t) out=_
 rw[pureF,if_neg (fun e=>e.elim (by simp) (by omega))]
 split
 ·rfl
 ·rename_i h
  refine pureF_fuel _ _ _ _ ?_ (Nat.le_refl _)
  rw[List.length_drop]
  simp only[List.length_cons]
  have:sgnL (b :: t)≠0:=fun e=>h (Or.inl e)
  omega
def pureS (s:ByteArray):ByteArray:=mk (pureL s.data.toList)
theorem mk_app (O:List UInt8) (s:ByteArray) (K n:Nat):mk O++s.extract K (K+n)=mk (O++(s.data.toList.drop K).take n):=by
 apply ByteArray.ext
 apply Array.toList_inj.1
 rw[Joins.data_append,Lib.extract_data,Nat.add_sub_cancel_left]
 rfl
theorem mk_size (O:List UInt8):(mk O).size=O.length:=rfl
theorem ret_str {a b:ByteArray} (h:a=b):Ending.returned (.string a)= .returned (.string b):=by rw[h]
set_option maxHeartbeats 2000000 in
theorem pure_any (s:ByteArray) (w:World) (hs:s.size≤9223372036854775807):
 Calls Tryz.prog 25 #[.string s] w fun e w'=>e= .returned (.string (pureS s))∧w'=w:=by
 obtain⟨R,hR⟩:∃R,pureL s.data.toList=R:=⟨_,rfl⟩
 unfold pureS
 rw[hR]
 have HR:Hid (pureO s.data.toList []=R):=hR
 clear hR
 go_enter Tryz.func25,Tryz.ntmps25
 go_wp2
 go_loop [3,4] (fun o i=>∃(K:Nat) (O:List UInt8),K≤s.size∧O.length≤40∧o= .string (mk O)∧i= .int .i64 (K:Int)∧Hid (pureO (s.data.toList.drop K) O=R)) (fun _ i=>s.size-(intOf i).toNat)
 case atStart=>exact⟨0,[],Nat.zero_le _,by simp,rfl,rfl,by rw[List.drop_zero];exact HR⟩
 case round=>
  obtain⟨K,O,hK,hO,rfl,rfl,HK⟩:=hrel
  have HS:=Lib.hid (mk_size O)
  by_cases hlt:K<s.size
  ·have hKI:(K:Int)<(s.size:Int):=by omega
   by_cases h37:O.length<37
   ·have h37I:((mk O).size:Int)<37:=by rw[mk_size];omega
    obtain⟨n,hn⟩:∃n,sgnL (s.data.toList.drop K)=n:=⟨_,rfl⟩
    have hnl:n≤s.size-K:=by have:=sgnL_le (s.data.toList.drop K);rw[hn,List.length_drop,←Lib.size_eq]at this;exact this
    have hn4:n≤4:=by have:=sgnL_le4 (s.data.toList.drop K);omega
    have hst:=pureO_step (drop_ne s hlt) h37
    rw[hn,drop_head s hlt]at hst
    have HN:=Lib.hid hn
    have hc:=odd_cases (s[K]'hlt)
    have hltK:(s[K]'hlt).toNat<256:=UInt8.toNat_lt _
    have hno:∀(_:n=0∨oddB (s[K]'hlt)=true),Hid (pureO (s.data.toList.drop (K+1)) O=R):=fun h=>by
     show _=_
     rw[←HK.out,hst,if_pos h,List.drop_drop]
    by_cases hz:n=0
    ·have HK':=hno (Or.inl hz)
     have hzI:((n:Int)==0)=true:=by rw[beq_iff_eq];omega
     clear hst hn hc hno HK
     go_wp2_with (go_at_call 57;refine(sign_at s K n _ hs HN).mono ?_;rintro e w' ⟨rfl,rfl⟩)
     go_round
     case rel=>exact⟨K+1,O,by omega,by omega,rfl,by go_num,HK'⟩
     case measure=>simp[intOf];omega
    have hzI:((n:Int)==0)=false:=by rw[beq_eq_false_iff_ne];omega
    rcases hc with ⟨ho,h1,h2⟩|⟨ho,h1⟩|⟨ho,h1⟩
    ·have HK':Hid (pureO (s.data.toList.drop (K+n)) (O++(s.data.toList.drop K).take n)=R):=by
      show _=_
      rw[←HK.out,hst,if_neg (by rw[ho];simp;exact hz),List.drop_drop]
     have h1I:¬((s[K]'hlt).toNat:Int)<32:=by omega
     have h2I:(((s[K]'hlt).toNat:Int)==127)=false:=by rw[beq_eq_false_iff_ne];omega
     have HE:=Lib.hid (mk_app O s K n)
     have hsz:(mk O).size+(s.extract K (K+n)).size≤9223372036854775807:=by rw[mk_size,ByteArray.size_extract];omega
     have hl:(O++(s.data.toList.drop K).take n).length≤40:=by rw[List.length_append,List.length_take];omega
     have hKn:(K:Int)+(n:Int)≤(s.size:Int):=by omega
     clear hst hn ho HK hno
     go_wp2_with (go_at_call 57;refine(sign_at s K n _ hs HN).mono ?_;rintro e w' ⟨rfl,rfl⟩)
     go_round
     case rel=>exact⟨K+n,_,by omega,hl,by rw[HE.out],by go_num,HK'⟩
     case measure=>simp[intOf];omega
    ·have HK':=hno (Or.inr ho)
     have h1I:((s[K]'hlt).toNat:Int)<32:=by omega
     clear hst hn ho hno HK
     go_wp2_with (go_at_call 57;refine(sign_at s K n _ hs HN).mono ?_;rintro e w' ⟨rfl,rfl⟩)
     go_round
     case rel=>exact⟨K+1,O,by omega,by omega,rfl,by go_num,HK'⟩
     case measure=>simp[intOf];omega
    ·have HK':=hno (Or.inr ho)
     have h1I:¬((s[K]'hlt).toNat:Int)<32:=by omega
     have h2I:(((s[K]'hlt).toNat:Int)==127)=true:=by rw[beq_iff_eq];omega
     clear hst hn ho hno HK
     go_wp2_with (go_at_call 57;refine(sign_at s K n _ hs HN).mono ?_;rintro e w' ⟨rfl,rfl⟩)
     go_round
     case rel=>exact⟨K+1,O,by omega,by omega,rfl,by go_num,HK'⟩
     case measure=>simp[intOf];omega
   ·have h37I:¬((mk O).size:Int)<37:=by rw[mk_size];omega
    have HF:Hid (O=R):=by show _=_;rw[←HK.out,pureO_end (Or.inr (by omega))]
    go_wp2_with fail
    go_ret
    exact⟨ret_str (by rw[HF.out]),rfl⟩
  ·have hKI:¬(K:Int)<(s.size:Int):=by omega
   have HF:Hid (O=R):=by show _=_;rw[←HK.out,pureO_end (Or.inl (List.drop_eq_nil_of_le (by rw[←Lib.size_eq];omega)))]
   go_wp2_with fail
   go_ret
   exact⟨ret_str (by rw[HF.out]),rfl⟩
end Go.Proofs.YtmhfioimgllgeaaGreatDoor
