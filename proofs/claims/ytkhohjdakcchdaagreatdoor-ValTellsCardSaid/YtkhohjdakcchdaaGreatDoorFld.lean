/- Texts with small letters: val.fold, tabularef03.Fold; val.truths. -/
import Derived.Test.YtkhohjdakcchdaaGreatDoorBf
import Derived.Laws.IdiomStrings
namespace Go.Proofs.YtkhohjdakcchdaaGreatDoor
open Go Go.RowKit
/-- Block g has n bytes, at j the byte f j. -/
structure ByAt (w:World) (g n:Nat) (f:Nat→UInt8):Prop where
 cell:∀j,j<n→w.cell? ⟨g,j,none⟩=some (.int .u8 ((f j).toNat:Int))
 free:∀j,j<n→w.frozen? ⟨g,j,none⟩=false
 lt:g<w.heap.size
section
variable {w : World} {g n : Nat} {f f' : Nat → UInt8}
theorem ByAt.set (h:ByAt w g n f) {k:Nat} (hk:k<n) (c:UInt8):ByAt (w.setCell ⟨g,k,none⟩ (.int .u8 (c.toNat:Int))) g n (fun j=>if j=k then c else f j):=by
 refine⟨fun j hj=> ?_,fun j hj=>by rw[World.frozen?_setCell];exact h.free j hj,by simpa using h.lt⟩
 by_cases e:j=k
 ·subst e
  rw[World.cell?_setCell_same w _ _ (h.cell j hj),if_pos rfl]
 ·rw[World.cell?_setCell_other w _ _ _ (by intro e';injection e' with _ e' _;exact e e'.symm),h.cell j hj,if_neg e]
theorem ByAt.congr (h:ByAt w g n f) (he:∀j,j<n→f j=f' j):ByAt w g n f':=⟨fun j hj=>by rw[←he j hj];exact h.cell j hj,h.free,h.lt⟩
theorem ByAt.drewN (h:ByAt w g n f) (k:Nat):ByAt (w.drewN k) g n f:=⟨h.cell,h.free,h.lt⟩
theorem ByAt.drew (h:ByAt w g n f):ByAt w.drew g n f:=⟨h.cell,h.free,h.lt⟩
theorem ByAt.back (h:ByAt w g n f) {l:List UInt8} {cap:Nat} (hl:l.length=n) (hf:∀j (hj:j<l.length),f j=l[j]):(convert 103 9 (.slice (some ⟨g,0,none⟩) n cap)).run Tryz.prog w= .ok (.string ⟨l.toArray⟩) w:=by
 subst hl
 refine run_convert_bytes_back w 103 9 5 ⟨g,0,none⟩ cap l Tryz.underlying103 Tryz.underlying5 Tryz.underlying9 (fun j hj=> ?_)
 have:=h.cell j hj
 rw[hf j hj]at this
 rw[←this]
 unfold Addr.add
 by_cases e:j=0<;>simp[e]
end
/-- A text as bytes, in a new block. -/
theorem bytes_new (w:World) (s:ByteArray):∃(W:World) (cap:Nat),(convert 9 103 (.string s)).run Tryz.prog w= .ok (.slice (some ⟨w.heap.size,0,none⟩) s.size cap) W∧ByAt W w.heap.size s.size (fun j=>s.data.toList.getD j 0)∧Below w.heap.size w W:=by
 refine⟨_,_,run_bytes_of_string w 9 103 5 s Tryz.underlying9 Tryz.underlying103 Tryz.underlying5,⟨fun j hj=> ?_,fun j hj=> ?_,by simp⟩,(Below.refl _ w).drew.alloc (Nat.le_refl _) _⟩
 ·show(w.drew.alloc _).cell? ⟨w.drew.heap.size,j,none⟩=_
  rw[World.cell?_alloc_mark,bytesRow_at _ _ _ hj]
  simp only[List.getD_eq_getElem?_getD]
  rw[List.getElem?_eq_getElem (by simpa using hj)]
  rfl
 ·show(w.drew.alloc _).frozen? ⟨w.drew.heap.size,j,none⟩=_
  rw[World.frozen?_alloc_mark]
  have:s.data.size≤(bytesRow s (grownCap w s.size 0 5)).size:=by unfold bytesRow;simp
  have:¬(bytesRow s (grownCap w s.size 0 5)).size≤j:=by
   have hj':j<s.data.size:=hj
   omega
  simp[this]
def foldS (s:ByteArray):ByteArray:=mk (lowL s.data.toList)
theorem lowL_at (s:ByteArray) (j:Nat) (hj:j<(lowL s.data.toList).length):lowC (s.data.toList.getD j 0)=(lowL s.data.toList)[j]:=by
 have h2:j<s.data.toList.length:=by simpa [lowL]using hj
 simp only[lowL,List.getElem_map,List.getD_eq_getElem?_getD]
 rw[List.getElem?_eq_getElem h2]
 rfl
theorem lowC_up {c:UInt8} (h:65≤c.toNat∧c.toNat≤90):((lowC c).toNat:Int)=(c.toNat:Int)+32:=by
 unfold lowC
 rw[if_pos h,UInt8.toNat_add]
 have:(32:UInt8).toNat=32:=rfl
 rw[this]
 omega
theorem lowC_no {c:UInt8} (h:¬(65≤c.toNat∧c.toNat≤90)):lowC c=c:=by unfold lowC;rw[if_neg h]
set_option maxRecDepth 100000 in
set_option maxHeartbeats 2000000 in
theorem fold_any (s:ByteArray) (w:World) (hs:s.size≤4294967280):Calls Tryz.prog 48 #[.string s] w (Gives (.string (foldS s)) w):=by
 obtain⟨W,cap,hconv,hby,hB⟩:=bytes_new w s
 have hlt:=hby.lt
 go_enter Tryz.func48,Tryz.ntmps48
 go_wp2
 clear hconv
 go_loopw [10] (fun i wr=>∃K:Nat,K≤s.size∧i= .int .i64 (K:Int)∧ByAt wr w.heap.size s.size (fun j=>if j<K then lowC (s.data.toList.getD j 0)else s.data.toList.getD j 0)∧Below w.heap.size w wr) (fun i _=>s.size-(intOf i).toNat)
 case atStart=>exact⟨0,Nat.zero_le _,rfl,hby.congr (fun j _=>by simp),hB⟩
 case round=>
  obtain⟨K,hK,rfl,hb,hBr⟩:=hrel
  clear hby hB
  by_cases hlt2:K<s.size
  ·have hKI:(K:Int)<(s.size:Int):=by omega
   obtain⟨c,hc⟩:∃c,s.data.toList.getD K 0=c:=⟨_,rfl⟩
   have h0:=hb.cell K hlt2
   have hf:=hb.free K hlt2
   rw[if_neg (by omega),hc]at h0
   have hc256:c.toNat<256:=UInt8.toNat_lt _
   by_cases hr:65≤c.toNat∧c.toNat≤90
   ·have hr1:(65:Int)≤(c.toNat:Int):=by omega
    have hr2:(c.toNat:Int)≤90:=by omega
    have HS:Hid (∀v:Int,v=(c.toNat:Int)+32→ByAt (wr.setCell ⟨w.heap.size,K,none⟩ (.int .u8 v)) w.heap.size s.size (fun j=>if j<K+1 then lowC (s.data.toList.getD j 0)else s.data.toList.getD j 0)):=Lib.hid fun v hv=>by
     have:=hb.set hlt2 (lowC c)
     rw[lowC_up hr,←hv]at this
     refine this.congr (fun j _=> ?_)
     by_cases e:j=K
     ·subst e;rw[if_pos rfl,if_pos (by omega),hc]
     ·rw[if_neg e]
      by_cases e2:j<K
      ·rw[if_pos e2,if_pos (by omega)]
      ·rw[if_neg e2,if_neg (by omega)]
    clear hb hc hr
    go_wp2
    go_roundw
    case rel=>exact⟨K+1,by omega,by go_num,HS.out _ (by omega),hBr.setCell (Nat.le_refl _) _⟩
    case measure=>simp[intOf];omega
   ·have HS:Hid (ByAt wr w.heap.size s.size (fun j=>if j<K+1 then lowC (s.data.toList.getD j 0)else s.data.toList.getD j 0)):=Lib.hid (hb.congr (fun j _=>by
     by_cases e:j=K
     ·subst e;rw[if_neg (by omega),if_pos (by omega),hc,lowC_no hr]
     ·by_cases e2:j<K
      ·rw[if_pos e2,if_pos (by omega)]
      ·rw[if_neg e2,if_neg (by omega)]))
    clear hb hc
    rcases(by omega:c.toNat<65∨(65≤c.toNat∧90<c.toNat))with hr'|⟨hr1,hr2⟩
    ·have hr1:(c.toNat:Int)<65:=by omega
     clear hr
     go_wp2
     go_roundw
     case rel=>exact⟨K+1,by omega,by go_num,HS.out,hBr⟩
     case measure=>simp[intOf];omega
    ·have hr1:(65:Int)≤(c.toNat:Int):=by omega
     have hr2:(90:Int)<(c.toNat:Int):=by omega
     clear hr
     go_wp2
     go_roundw
     case rel=>exact⟨K+1,by omega,by go_num,HS.out,hBr⟩
     case measure=>simp[intOf];omega
  ·have hKI:¬(K:Int)<(s.size:Int):=by omega
   have hback:=hb.back (l:=lowL s.data.toList) (cap:=cap) (by simp[lowL]) (fun j hj=>by
    have:j<s.size:=by simpa [lowL]using hj
    show(if j<K then _ else _)=_
    rw[if_pos (by omega),lowL_at s j hj])
   clear hb
   go_wp2
   go_ret
   exact⟨rfl,hBr⟩
set_option maxRecDepth 100000 in
set_option maxHeartbeats 2000000 in
theorem rfold_any (s:ByteArray) (w:World) (hs:s.size≤4294967280):Calls Tryz.prog 54 #[.string s] w (Gives (.string (foldS s)) w):=by
 obtain⟨W,cap,hconv,hby,hB⟩:=bytes_new w s
 have hlt:=hby.lt
 go_enter Tryz.func54,Tryz.ntmps54
 go_wp2
 clear hconv
 go_loopw [4] (fun i wr=>∃K:Nat,K≤s.size∧i= .int .i64 (K:Int)∧ByAt wr w.heap.size s.size (fun j=>if j<K then lowC (s.data.toList.getD j 0)else s.data.toList.getD j 0)∧Below w.heap.size w wr) (fun i _=>s.size-(intOf i).toNat)
 case atStart=>exact⟨0,Nat.zero_le _,rfl,hby.congr (fun j _=>by simp),hB⟩
 case round=>
  obtain⟨K,hK,rfl,hb,hBr⟩:=hrel
  clear hby hB
  by_cases hlt2:K<s.size
  ·have hKI:(K:Int)<(s.size:Int):=by omega
   obtain⟨c,hc⟩:∃c,s.data.toList.getD K 0=c:=⟨_,rfl⟩
   have h0:=hb.cell K hlt2
   have hf:=hb.free K hlt2
   rw[if_neg (by omega),hc]at h0
   have hc256:c.toNat<256:=UInt8.toNat_lt _
   by_cases hr:65≤c.toNat∧c.toNat≤90
   ·have hr1:(65:Int)≤(c.toNat:Int):=by omega
    have hr2:(c.toNat:Int)≤90:=by omega
    have HS:Hid (∀v:Int,v=(c.toNat:Int)+32→ByAt (wr.setCell ⟨w.heap.size,K,none⟩ (.int .u8 v)) w.heap.size s.size (fun j=>if j<K+1 then lowC (s.data.toList.getD j 0)else s.data.toList.getD j 0)):=Lib.hid fun v hv=>by
     have:=hb.set hlt2 (lowC c)
     rw[lowC_up hr,←hv]at this
     refine this.congr (fun j _=> ?_)
     by_cases e:j=K
     ·subst e;rw[if_pos rfl,if_pos (by omega),hc]
     ·rw[if_neg e]
      by_cases e2:j<K
      ·rw[if_pos e2,if_pos (by omega)]
      ·rw[if_neg e2,if_neg (by omega)]
    clear hb hc hr
    go_wp2
    go_roundw
    case rel=>exact⟨K+1,by omega,by go_num,HS.out _ (by omega),hBr.setCell (Nat.le_refl _) _⟩
    case measure=>simp[intOf];omega
   ·have HS:Hid (ByAt wr w.heap.size s.size (fun j=>if j<K+1 then lowC (s.data.toList.getD j 0)else s.data.toList.getD j 0)):=Lib.hid (hb.congr (fun j _=>by
     by_cases e:j=K
     ·subst e;rw[if_neg (by omega),if_pos (by omega),hc,lowC_no hr]
     ·by_cases e2:j<K
      ·rw[if_pos e2,if_pos (by omega)]
      ·rw[if_neg e2,if_neg (by omega)]))
    clear hb hc
    rcases(by omega:c.toNat<65∨(65≤c.toNat∧90<c.toNat))with hr'|⟨hr1,hr2⟩
    ·have hr1:(c.toNat:Int)<65:=by omega
     clear hr
     go_wp2
     go_roundw
     case rel=>exact⟨K+1,by omega,by go_num,HS.out,hBr⟩
     case measure=>simp[intOf];omega
    ·have hr1:(65:Int)≤(c.toNat:Int):=by omega
     have hr2:(90:Int)<(c.toNat:Int):=by omega
     clear hr
     go_wp2
     go_roundw
     case rel=>exact⟨K+1,by omega,by go_num,HS.out,hBr⟩
     case measure=>simp[intOf];omega
  ·have hKI:¬(K:Int)<(s.size:Int):=by omega
   have hback:=hb.back (l:=lowL s.data.toList) (cap:=cap) (by simp[lowL]) (fun j hj=>by
    have:j<s.size:=by simpa [lowL]using hj
    show(if j<K then _ else _)=_
    rw[if_pos (by omega),lowL_at s j hj])
   clear hb
   go_wp2
   go_ret
   exact⟨rfl,hBr⟩
theorem foldS_list (s:ByteArray):(foldS s).toList=lowL s.data.toList:=by
 rw[ByteArray.toList_eq]
 rfl
theorem ret_tup2 {a b c d:Bool} (h:a=c) (h':b=d):Ending.returned (.tuple #[.bool a,.bool b])= .returned (.tuple #[.bool c,.bool d]):=by rw[h,h']
set_option maxHeartbeats 1000000 in
theorem truths_any (s:ByteArray) (w:World) (hs:s.size≤4294967280):Calls Tryz.prog 45 #[.string s] w (Gives (.tuple #[.bool ((truthL s.data.toList).getD false),.bool (truthL s.data.toList).isSome]) w):=by
 by_cases h1:lowL s.data.toList=trueL
 ·have HT:Hid (truthL s.data.toList=some true):=by show _=_;rw[truthL,if_pos h1]
  have e1:(foldS s).toList= [116,114,117,101]:=by rw[foldS_list,h1];rfl
  clear h1
  go_enter Tryz.func45,Tryz.ntmps45
  go_wp2_with (go_at_call 48;refine(fold_any s _ hs).mono ?_;rintro e w1 ⟨rfl,hB⟩)
  go_ret2
  exact⟨ret_tup2 (by rw[HT.out];rfl) (by rw[HT.out];rfl),hB⟩
 by_cases h2:lowL s.data.toList=falseL
 ·have HT:Hid (truthL s.data.toList=some false):=by show _=_;rw[truthL,if_neg h1,if_pos h2]
  have e1:(foldS s).toList= [102,97,108,115,101]:=by rw[foldS_list,h2];rfl
  clear h1 h2
  go_enter Tryz.func45,Tryz.ntmps45
  go_wp2_with (go_at_call 48;refine(fold_any s _ hs).mono ?_;rintro e w1 ⟨rfl,hB⟩)
  go_ret2
  exact⟨ret_tup2 (by rw[HT.out];rfl) (by rw[HT.out];rfl),hB⟩
 ·have HT:Hid (truthL s.data.toList=none):=by show _=_;rw[truthL,if_neg h1,if_neg h2]
  have e1:¬(foldS s).toList= [116,114,117,101]:=by rw[foldS_list];exact h1
  have e2:¬(foldS s).toList= [102,97,108,115,101]:=by rw[foldS_list];exact h2
  clear h1 h2
  go_enter Tryz.func45,Tryz.ntmps45
  go_wp2_with (go_at_call 48;refine(fold_any s _ hs).mono ?_;rintro e w1 ⟨rfl,hB⟩)
  go_ret2
  exact⟨ret_tup2 (by rw[HT.out];simp[e1]) (by rw[HT.out];simp[e1,e2]),hB⟩
end Go.Proofs.YtkhohjdakcchdaaGreatDoor
