/- Merged: Nam, Nml. -/
import Derived.Test.YtmhfioimgllgeaaGreatDoorR46
import Derived.Test.YtmhfioimgllgeaaGreatDoorR52
import Derived.Sort.OwnSorted
namespace Go.Proofs.YtmhfioimgllgeaaGreatDoor
open Go Go.RowKit Go.Shelf Go.Maps Go.Sort
theorem sort_names (base:Nat) (v:Value) (ss:List (List UInt8)) (w:World) (hown:World.sr w base v (ss.map mk)) (hl:ss.length≤100000):
 Calls Tryz.prog 40 #[v] w fun e w'=>e= .returned (.tuple #[])∧World.sr w' base v ((ss.mergeSort fun x y=>decide (x≤y)).map mk)∧w.grownBy w' v.ownBlock:=by
 have hle:((ss.map mk).map Value.string)=ss.map encStr:=by rw[List.map_map];rfl
 unfold World.sr at hown
 rw[hle,List.length_map]at hown
 have fin:∀W,W.ownsRow base 9 1 v ss.length ((ss.mergeSort fun x y=>decide (x≤y)).map encStr)→World.sr W base v ((ss.mergeSort fun x y=>decide (x≤y)).map mk):=by
  intro W h
  unfold World.sr
  rw[List.map_map,List.length_map,List.length_mergeSort]
  exact h
 rcases hown.2 with ⟨rfl,h0⟩|⟨g,cap,cur,rfl,hbase,hb,h1,h2,h3,h4⟩
 ·have:ss= []:=List.eq_nil_of_length_eq_zero h0
  subst this
  exact(Tryz.slices_Sort_string_none none 0 w).mono fun e w' ⟨he,hw⟩=>⟨he,fin _ (by subst hw;simp only[List.mergeSort_nil];exact World.ownsRow_nil _ _ _ _),by subst hw;exact⟨rfl,rfl,rfl,Nat.le_refl _,fun _ _ _=>rfl⟩⟩
 ·have hg:g<w.heap.size:=(Array.getElem?_eq_some_iff.1 hb).1
  have hH:Holds encStr w g 0 ss.toArray:=holds_of_block hb (by simpa using h4)
  refine(Tryz.slices_Sort_string g 0 cap ss w hH hg (by omega)).mono ?_
  rintro e w' ⟨rfl,n,os,rfl⟩
  exact⟨rfl,fin _ (ownsRow_sorted (by simp) hbase hb h1 h2 h3),grownBy_sorted _⟩
def NamesPost (w:World) (e:Ending) (w':World):Prop:=∃(v:Value) (D:List (List UInt8)),e= .returned v∧World.sr w' w.heap.size v ((D.mergeSort fun x y=>decide (x≤y)).map mk)∧D.Nodup∧(∀x,x∈D↔(look (tabAll 0 0) x).isSome=true)∧Below w.heap.size w w'
set_option maxRecDepth 100000 in
set_option maxHeartbeats 4000000 in
theorem names_any (w:World):Calls Tryz.prog 12 #[] w (NamesPost w):=by
 go_enter Tryz.func12,Tryz.ntmps12
 go_wp2_with fail
 refine(funs_any 0 0 _).mono ?_
 rintro e1 w1 ⟨b,rfl,hT,hB1⟩
 have hbl:=hT.lt
 obtain⟨D0,hown,htl⟩:=hT
 have HS:=Lib.hid htl
 have hsz:=hown.size_le
 go_wp2_with (at_range;refine wpList_range_own _ rfl _ 74 rfl 9 83 keyed9 Tryz.underlying74 RV b 100 _ rfl hown ?_;intro w0 hrg0 hg0 hs0)
 go_frame
 have hB0:Below w.heap.size w w0:=hB1.grown hg0 hB1.size (fun k hk=>by cases hk)
 obtain⟨r,hr⟩:∃r,r=w1.heap.size:=⟨_,rfl⟩
 rw[←hr]at hrg0 hs0 hbl⊢
 have hrw:w.heap.size≤r:=by rw[hr];exact hB1.size
 clear hr hg0 hB1 hown
 go_loopw [1] (fun v wr=>∃(left:Lit→Bool) (cnt:Nat) (D:List (List UInt8)),wr.ranges Tryz.prog 9 RV b r 100 D0 left cnt∧D.length+cnt≤100∧Hid (World.sr wr (r+1) v (D.map mk))∧Hid (∀x,x∈D↔((look (tabAll 0 0) x).isSome=true∧left (.string x)=false))∧Hid D.Nodup∧Below w.heap.size w wr∧r<wr.heap.size) (fun _ wr=>wr.rangeLeft b r)
 case atStart=>
  refine⟨_,_,[],hrg0,by simpa using hsz,World.sr_nil,fun x=>⟨fun h=>(by cases h),fun h=> ?_⟩,List.nodup_nil,hB0,by omega⟩
  exfalso
  have h2:=HS.out x
  split at h2
  ·obtain⟨v,h3,_⟩:=h2
   have:=has_true_of_atKey h3
   rw[h.2]at this;cases this
  ·rename_i hn
   rw[hn]at h;cases h.1
 case round=>
  clear hrg0 hs0 hB0
  obtain⟨left,cnt,D,hrg,hcs,HR,HM,HND,hB,hrl⟩:=hrel
  go_wp2_with (at_next;refine wpList_next_ranges _ rfl _ rfl 9 keyed9 RV id id (fun key _ _=>⟨key,rfl⟩) (fun v _ _=>⟨v,rfl⟩) b r 100 _ _ _ rfl hrg ?_ ?_)
  ·intro hc0 hl0
   have HDl:Hid (D.length≤100000):=Lib.hid (by omega)
   have HMM:Hid (∀x,x∈D↔(look (tabAll 0 0) x).isSome=true):=Lib.hid fun x=>(HM.out x).trans ⟨fun h=>h.1,fun h=>⟨h,hl0 _⟩⟩
   have HLT:=Lib.hid (World.ownsRow.lt HR.out)
   clear hc0 hl0 hrg HM
   go_wp2_with (go_at_call 40;refine(sort_names _ _ _ _ HR.out HDl.out).mono ?_;rintro e w4 ⟨rfl,hr4,hg4⟩)
   go_ret
   refine⟨_,D,rfl,?_,HND.out,HMM.out,hB.grown hg4 hB.size (fun k hk=>by have:=(HLT.out k hk).1;omega)⟩
   refine⟨hr4.1,?_⟩
   rcases hr4.2 with h|⟨g,cap,cur,e,hg,h3⟩
   ·exact .inl h
   ·exact .inr ⟨g,cap,cur,e,by omega,h3⟩
  ·intro x c kl y ps w1 cnt1 hkey hlx hv hat hrg1 hlt hg1 hs1' hen
   obtain⟨s,hxs,hks,hsz⟩:=Go.WideMaps.string_of_keyOf Tryz.underlying9 hkey
   change x=_ at hxs
   subst hxs hks
   have hy:y= .held c:=by unfold RV at hv;injection hv with hv;injection hv with hv;exact hv.symm
   subst hy
   have he:(look (tabAll 0 0) s.data.toList).isSome=true:=by
    have h2:=HS.out s.data.toList
    split at h2
    ·rename_i e he
     rw[he];rfl
    ·have:=(h2 .nil).symm.trans (hat .nil)
     cases this
   have HE:=Lib.hid he
   have HL:=Lib.hid hlx
   have hr1:=HR.out.grown hg1 (Nat.lt_succ_self _)
   have hB1:=hB.grown hg1 hB.size (fun k hk=>by cases hk;exact hrw)
   have HR1:=Lib.hid (hr1.alloc (.cells #[.string s] 9))
   have HLN:Hid ((D.map mk).length≤100000):=Lib.hid (by rw[List.length_map];omega)
   have HLT:=Lib.hid (World.ownsRow.lt HR1.out)
   have hrl1:r<w1.heap.size:=by omega
   clear he hlx hat hv hkey hr1
   go_wp2_with (first|refine wpList_bslS rfl rfl rfl ?_|(refine wpList_pushS rfl rfl HR1.out HLN.out rfl rfl (cell_new_one w1 _ _) (by simp;omega) ?_;intro v8 w8 hr8 hg8))
   have hrg3:=(hrg1.alloc (.cells #[.string s] 9)).kept hg8 (fun e=>by have:=(HLT.out _ e.symm).1;omega) (fun e=>by have:=(HLT.out _ e.symm).1;omega)
   have hB8:=(hB1.alloc hB1.size (.cells #[.string s] 9)).grown hg8 (by have:=hB1.size;simp;omega) (fun k hk=>by have:=(HLT.out k hk).1;omega)
   go_roundw
   case rel=>
    refine⟨_,cnt1,D++ [s.data.toList],hrg3,by rw[List.length_append,List.length_singleton];omega,?_,?_,?_,hB8,?_⟩
    ·show World.sr _ _ _ _
     rw[List.map_append,List.map_singleton]
     exact hr8
    ·intro z
     rw[List.mem_append,List.mem_singleton,HM.out z]
     by_cases hz:z=s.data.toList
     ·subst hz
      refine⟨fun _=>⟨HE.out,?_⟩,fun _=> .inr rfl⟩
      show(left _&& !(Lit.string s.data.toList).sameKey (.string s.data.toList))=false
      rw[WideAt.sameKey_self (show WideAt.IsKeyLit (.string s.data.toList)from trivial)];simp
     ·have:(Lit.string z).sameKey (.string s.data.toList)=false:=sameKey_ne (fun e=>by injection e with e;exact hz e)
      constructor
      ·rintro(h|h)
       ·exact⟨h.1,by show(left _&& !(Lit.string z).sameKey (.string s.data.toList))=false;rw[h.2];rfl⟩
       ·exact absurd h hz
      ·rintro⟨h1,h2⟩
       have h2:(left (.string z)&& !(Lit.string z).sameKey (.string s.data.toList))=false:=h2
       rw[this]at h2
       exact .inl ⟨h1,by simpa using h2⟩
    ·show(D++ [s.data.toList]).Nodup
     rw[List.nodup_append]
     refine⟨HND.out,by simp,fun a ha b hb=> ?_⟩
     rw[List.mem_singleton.1 hb]
     intro e
     have h:=((HM.out a).1 ha).2
     rw[e,HL.out]at h;cases h
    ·have:=hg8.size;simp at this;omega
   case measure=>rw[hrg3.left_eq,hrg.left_eq];exact hlt
end Go.Proofs.YtmhfioimgllgeaaGreatDoor
namespace Go.Proofs.YtmhfioimgllgeaaGreatDoor
open Go Go.RowKit Go.Shelf
def NL :List (List UInt8):= [
 [65,66,83],
 [65,78,68],
 [65,86,69,82,65,71,69],
 [67,72,65,82],
 [67,72,79,79,83,69],
 [67,79,68,69],
 [67,79,76,85,77,78,83],
 [67,79,78,67,65,84],
 [67,79,85,78,84],
 [67,79,85,78,84,65],
 [67,79,85,78,84,66,76,65,78,75],
 [67,79,85,78,84,73,70],
 [69,88,65,67,84],
 [70,65,67,84],
 [70,65,76,83,69],
 [70,73,76,84,69,82],
 [70,73,78,68],
 [73,70],
 [73,70,69,82,82,79,82],
 [73,70,78,65],
 [73,78,68,69,88],
 [73,78,84],
 [73,83,66,76,65,78,75],
 [73,83,69,82,82,79,82],
 [73,83,69,86,69,78],
 [73,83,76,79,71,73,67,65,76],
 [73,83,78,65],
 [73,83,78,85,77,66,69,82],
 [73,83,79,68,68],
 [73,83,84,69,88,84],
 [76,65,82,71,69],
 [76,69,70,84],
 [76,69,78],
 [76,79,87,69,82],
 [77,65,84,67,72],
 [77,65,88],
 [77,69,68,73,65,78],
 [77,73,68],
 [77,73,78],
 [77,79,68],
 [78,65],
 [78,79,84],
 [78,79,87],
 [79,82],
 [80,79,87,69,82],
 [80,82,79,68,85,67,84],
 [81,85,79,84,73,69,78,84],
 [82,69,80,84],
 [82,73,71,72,84],
 [82,79,85,78,68],
 [82,79,87,83],
 [83,69,81,85,69,78,67,69],
 [83,73,71,78],
 [83,77,65,76,76],
 [83,79,82,84],
 [83,85,66,83,84,73,84,85,84,69],
 [83,85,77],
 [83,85,77,73,70],
 [84,69,88,84,74,79,73,78],
 [84,82,65,78,83,80,79,83,69],
 [84,82,73,77],
 [84,82,85,69],
 [84,82,85,78,67],
 [84,89,80,69],
 [85,78,73,81,85,69],
 [85,80,80,69,82],
 [86,65,76,85,69],
 [86,76,79,79,75,85,80],
 [88,79,82]]
theorem look_keys (x:List UInt8):∀T:List (List UInt8×Ent),(look T x).isSome=true↔x∈T.map (·.1)
 | []=>by simp[look]
 |(k,e) :: T=>by
  rw[look,List.map_cons,List.mem_cons]
  by_cases h:k=x
  ·rw[if_pos h];simp[h]
  ·rw[if_neg h,look_keys x T]
   constructor
   ·exact .inr
   ·rintro(h2|h2)
    ·exact absurd h2.symm h
    ·exact h2
set_option maxRecDepth 100000 in
theorem nl_keys :(NL.all fun x=>((tabAll 0 0).map (·.1)).elem x)=true∧(((tabAll 0 0).map (·.1)).all fun x=>NL.elem x)=true:=⟨by kernel_rfl,by kernel_rfl⟩
theorem nl_mem (x:List UInt8):x∈NL↔(look (tabAll 0 0) x).isSome=true:=by
 rw[look_keys]
 constructor
 ·intro h
  exact List.elem_iff.1 (List.all_eq_true.1 nl_keys.1 x h)
 ·intro h
  exact List.elem_iff.1 (List.all_eq_true.1 nl_keys.2 x h)
/-- Each is ahead of the next. -/
def risesB :List (List UInt8)→Bool
 | []=>true
 |x :: l=>l.all (fun y=>decide (x<y))&&risesB l
theorem rises_pair :∀l,risesB l=true→l.Pairwise (· < ·)
 | [],_=> .nil
 |x :: l,h=>by
  rw[risesB,Bool.and_eq_true,List.all_eq_true]at h
  exact .cons (fun y hy=>of_decide_eq_true (h.1 y hy)) (rises_pair l h.2)
set_option maxRecDepth 100000 in
theorem nl_rises :NL.Pairwise (· < ·):=rises_pair NL (by kernel_rfl)
theorem nl_nodup :NL.Nodup:=nl_rises.imp fun h e=>by subst e;exact List.lt_irrefl _ h
theorem names_sorted {D:List (List UInt8)} (hn:D.Nodup) (hm:∀x,x∈D↔(look (tabAll 0 0) x).isSome=true):(D.mergeSort fun x y=>decide (x≤y))=NL:=by
 have h1:=List.pairwise_mergeSort (le:=fun x y:List UInt8=>decide (x≤y)) (fun a b c h h'=>decide_eq_true (List.le_trans (of_decide_eq_true h) (of_decide_eq_true h'))) (fun a b=>by
  rcases List.le_total a b with h|h
  ·simp[h]
  ·simp[h]) D
 refine List.Perm.eq_of_pairwise (le:=fun x y=>decide (x≤y)=true) (fun a b _ _ h h'=>List.le_antisymm (of_decide_eq_true h) (of_decide_eq_true h')) h1 (nl_rises.imp fun h=>decide_eq_true (List.le_of_lt h)) ?_
 refine(List.mergeSort_perm D _).trans ?_
 rw[List.perm_ext_iff_of_nodup hn nl_nodup]
 intro x
 rw[hm,nl_mem]
theorem names12 (w:World):Calls Tryz.prog 12 #[] w fun e w'=>∃v,e= .returned v∧World.sr w' w.heap.size v (NL.map mk)∧Below w.heap.size w w':=
 (names_any w).mono fun e w' ⟨v,D,h1,h2,h3,h4,h5⟩=>⟨v,h1,by rw[names_sorted h3 h4]at h2;exact h2,h5⟩
end Go.Proofs.YtmhfioimgllgeaaGreatDoor
