/- Merged: Gpl, Grt. -/
import Derived.Test.YtkhohjdakcchdaaGreatDoorBb
import Derived.Test.YtkhohjdakcchdaaGreatDoorBv
import Derived.Test.YtkhohjdakcchdaaGreatDoorBr
namespace Go.Proofs.YtkhohjdakcchdaaGreatDoor
open Go Go.RowKit Go.Shelf
set_option maxRecDepth 100000 in
set_option maxHeartbeats 4000000 in
theorem vplain_4a (C:Array Value) (er:Int) (w:World) (x0:C[0]? =some (.int .i64 4)) (x5:C[5]? =some (.int .i64 er)) (hO:OneC C) (hr:¬1≤er):Calls Tryz.prog 68 #[.agg C] w (Gives (.bool false) w):=by
 have HO:=Lib.hid hO
 clear hO
 have f1:decide (1≤er)=false:=decide_eq_false hr
 clear hr
 go_enter Tryz.func68,Tryz.ntmps68
 go_wp2_with (refine wpList_alloc34 rfl rfl ?_)
 obtain⟨W,hW⟩:∃W,W=(w.alloc (.cells C 34)).alloc (.cells vz 34):=⟨_,rfl⟩
 rw[←hW]
 have hvx:World.vb W w.heap.size C:=by rw[hW];exact(World.vb_new w C).alloc _
 have hvy:World.vb W (w.heap.size+1) vz:=by rw[hW];exact World.vb_new' _ _ _ (by simp)
 have hB:Below w.heap.size w W:=by rw[hW];exact((Below.refl _ w).alloc (Nat.le_refl _) _).alloc (by simp) _
 clear hW
 have hvx:=hvx.drew
 have hvy:=hvy.drew
 have hB:=hB.drew
 have c5:=hvx.cell x5
 refine wp_region_held_drew (S:=(fun w9=>w9.cell? ⟨w.heap.size,5,none⟩=some (.int .i64 er))) (by kernel_rfl) c5 (fun hHeld=> ?_)
 refine tk 0 ⟨some 32,_,_,_,_,_⟩ ?_ hHeld ?_ ?_
 rotate_left
 ·(intro w9 hSw;(try dsimp only at hSw);go_simp)
  all_goals with_reducible rfl
 try simp only[Act.put,pk1,pk2,pk3]
 refine tk 1 ⟨some 33,_,_,_,_,_⟩ ?_ hHeld ?_ ?_
 rotate_left
 ·(intro w9 hSw;(try dsimp only at hSw);go_simp)
  all_goals with_reducible rfl
 try simp only[Act.put,pk1,pk2,pk3]
 refine tk 3 ⟨some 35,_,_,_,_,_⟩ ?_ hHeld ?_ ?_
 rotate_left
 ·(intro w9 hSw;(try dsimp only at hSw);go_simp)
  all_goals with_reducible rfl
 try simp only[Act.put,pk1,pk2,pk3]
 refine tk 4 ⟨some 36,_,_,_,_,_⟩ ?_ hHeld ?_ ?_
 rotate_left
 ·(intro w9 hSw;(try dsimp only at hSw);go_simp)
  all_goals with_reducible rfl
 try simp only[Act.put,pk1,pk2,pk3]
 refine tk 5 ⟨some 37,_,_,_,_,_⟩ ?_ hHeld ?_ ?_
 rotate_left
 ·(intro w9 hSw;(try dsimp only at hSw);go_simp)
  all_goals with_reducible rfl
 try simp only[Act.put,pk1,pk2,pk3]
 refine wpAnyH_ready (rs:= [2]) (by kernel_rfl) (by simp) ?_
 refine(AllReadyH.cons (o:=⟨some 34,_,_,_,_,_⟩) rfl (fun KK hK=> ?_) AllReadyH.nil)
 ·(try rw[if_pos (by rfl)])
  go_simp
  refine(err_any er _).mono ?_
  rintro e2 w2 ⟨rfl,hB2⟩
  have hvx:=hvx.below hB2 hvx.lt
  have hvy:=hvy.below hB2 hvy.lt
  have hB:=hB.trans (hB2.mono hB.size)
  have c5:=hvx.cell x5
  clear hB2
  refine hK.out _ _ c5 ?_
  clear hK KK hHeld
  intro hHeld
  try simp only[Act.put,pk1,pk2,pk3]
  refine tk 6 ⟨some 38,_,_,_,_,_⟩ ?_ hHeld ?_ ?_
  rotate_left
  ·(intro w9 hSw;(try dsimp only at hSw);go_simp)
   all_goals with_reducible rfl
  try simp only[Act.put,pk1,pk2,pk3]
  refine wpAnyH_take (i:=7) (oi:=⟨some 39,_,_,_,_,_⟩) (v:=undef) rfl (by kernel_rfl) (by kernel_rfl) (by kernel_rfl) (fun _ _ _ h=>h) (Or.inr ⟨by rfl,rfl⟩) hHeld ?_
  try simp only[Act.put,pk1,pk2,pk3]
  refine wpAnyH_take (i:=8) (oi:=⟨some 40,_,_,_,_,_⟩) (v:=undef) rfl (by kernel_rfl) (by kernel_rfl) (by kernel_rfl) (fun _ _ _ h=>h) (Or.inr ⟨by rfl,rfl⟩) hHeld ?_
  try simp only[Act.put,pk1,pk2,pk3]
  refine wpAnyH_take (i:=9) (oi:=⟨some 41,_,_,_,_,_⟩) (v:=undef) rfl (by kernel_rfl) (by kernel_rfl) (by kernel_rfl) (fun _ _ _ h=>h) (Or.inr ⟨by rfl,rfl⟩) hHeld ?_
  try simp only[Act.put,pk1,pk2,pk3]
  refine tk 10 ⟨some 42,_,_,_,_,_⟩ ?_ hHeld ?_ ?_
  rotate_left
  ·(intro w9 hSw;(try dsimp only at hSw);go_simp)
   all_goals with_reducible rfl
  try simp only[Act.put,pk1,pk2,pk3]
  refine wpAnyH_ready (rs:= [11]) (by kernel_rfl) (by simp) ?_
  refine(AllReadyH.cons (o:=⟨none,_,_,_,_,_⟩) rfl (fun KK hK=> ?_) AllReadyH.nil)
  ·(try rw[if_pos (by rfl)])
   refine op_store34 rfl rfl rfl hvy (by rfl) (pcs_one _) ?_
   intro w3 hn3 hg3 hz3
   have hvx:=hvx.grown hg3 (by intro e9;injection e9 with e9;omega)
   have hB:=hB.grown hg3 hB.size (fun k9 hk9=>by cases hk9;omega)
   have c5:=hvx.cell x5
   clear hg3 hz3
   refine hK.out _ _ c5 ?_
   clear hK KK hHeld
   intro hHeld
   try simp only[Act.put,pk1,pk2,pk3]
   refine tk 12 ⟨some 4,_,_,_,_,_⟩ ?_ hHeld ?_ ?_
   rotate_left
   ·(intro w9 hSw;(try dsimp only at hSw);go_simp)
    all_goals with_reducible rfl
   try simp only[Act.put,pk1,pk2,pk3]
   refine wpAnyH_done (by kernel_rfl) ?_ _
   try simp only[Act.put,pk1,pk2,pk3]
   clear hvx hvy hn3 c5
   go_wp2_with fail
   go_ret
   exact⟨rfl,hB⟩
set_option maxRecDepth 100000 in
set_option maxHeartbeats 4000000 in
theorem vplain_4b (C:Array Value) (er:Int) (w:World) (x0:C[0]? =some (.int .i64 4)) (x5:C[5]? =some (.int .i64 er)) (hO:OneC C) (hr:1≤er∧¬er≤9):Calls Tryz.prog 68 #[.agg C] w (Gives (.bool false) w):=by
 have HO:=Lib.hid hO
 clear hO
 have f1:decide (1≤er)=true:=decide_eq_true hr.1
 have f9:decide (er≤9)=false:=decide_eq_false hr.2
 clear hr
 go_enter Tryz.func68,Tryz.ntmps68
 go_wp2_with (refine wpList_alloc34 rfl rfl ?_)
 obtain⟨W,hW⟩:∃W,W=(w.alloc (.cells C 34)).alloc (.cells vz 34):=⟨_,rfl⟩
 rw[←hW]
 have hvx:World.vb W w.heap.size C:=by rw[hW];exact(World.vb_new w C).alloc _
 have hvy:World.vb W (w.heap.size+1) vz:=by rw[hW];exact World.vb_new' _ _ _ (by simp)
 have hB:Below w.heap.size w W:=by rw[hW];exact((Below.refl _ w).alloc (Nat.le_refl _) _).alloc (by simp) _
 clear hW
 have hvx:=hvx.drew
 have hvy:=hvy.drew
 have hB:=hB.drew
 have c5:=hvx.cell x5
 refine wp_region_held_drew (S:=(fun w9=>w9.cell? ⟨w.heap.size,5,none⟩=some (.int .i64 er))) (by kernel_rfl) c5 (fun hHeld=> ?_)
 refine tk 0 ⟨some 32,_,_,_,_,_⟩ ?_ hHeld ?_ ?_
 rotate_left
 ·(intro w9 hSw;(try dsimp only at hSw);go_simp)
  all_goals with_reducible rfl
 try simp only[Act.put,pk1,pk2,pk3]
 refine tk 1 ⟨some 33,_,_,_,_,_⟩ ?_ hHeld ?_ ?_
 rotate_left
 ·(intro w9 hSw;(try dsimp only at hSw);go_simp)
  all_goals with_reducible rfl
 try simp only[Act.put,pk1,pk2,pk3]
 refine tk 3 ⟨some 35,_,_,_,_,_⟩ ?_ hHeld ?_ ?_
 rotate_left
 ·(intro w9 hSw;(try dsimp only at hSw);go_simp)
  all_goals with_reducible rfl
 try simp only[Act.put,pk1,pk2,pk3]
 refine tk 4 ⟨some 36,_,_,_,_,_⟩ ?_ hHeld ?_ ?_
 rotate_left
 ·(intro w9 hSw;(try dsimp only at hSw);go_simp)
  all_goals with_reducible rfl
 try simp only[Act.put,pk1,pk2,pk3]
 refine tk 5 ⟨some 37,_,_,_,_,_⟩ ?_ hHeld ?_ ?_
 rotate_left
 ·(intro w9 hSw;(try dsimp only at hSw);go_simp)
  all_goals with_reducible rfl
 try simp only[Act.put,pk1,pk2,pk3]
 refine wpAnyH_ready (rs:= [2]) (by kernel_rfl) (by simp) ?_
 refine(AllReadyH.cons (o:=⟨some 34,_,_,_,_,_⟩) rfl (fun KK hK=> ?_) AllReadyH.nil)
 ·(try rw[if_pos (by rfl)])
  go_simp
  refine(err_any er _).mono ?_
  rintro e2 w2 ⟨rfl,hB2⟩
  have hvx:=hvx.below hB2 hvx.lt
  have hvy:=hvy.below hB2 hvy.lt
  have hB:=hB.trans (hB2.mono hB.size)
  have c5:=hvx.cell x5
  clear hB2
  refine hK.out _ _ c5 ?_
  clear hK KK hHeld
  intro hHeld
  try simp only[Act.put,pk1,pk2,pk3]
  refine tk 6 ⟨some 38,_,_,_,_,_⟩ ?_ hHeld ?_ ?_
  rotate_left
  ·(intro w9 hSw;(try dsimp only at hSw);go_simp)
   all_goals with_reducible rfl
  try simp only[Act.put,pk1,pk2,pk3]
  refine tk 7 ⟨some 39,_,_,_,_,_⟩ ?_ hHeld ?_ ?_
  rotate_left
  ·(intro w9 hSw;(try dsimp only at hSw);go_simp)
   all_goals with_reducible rfl
  try simp only[Act.put,pk1,pk2,pk3]
  refine tk 8 ⟨some 40,_,_,_,_,_⟩ ?_ hHeld ?_ ?_
  rotate_left
  ·(intro w9 hSw;(try dsimp only at hSw);go_simp)
   all_goals with_reducible rfl
  try simp only[Act.put,pk1,pk2,pk3]
  refine tk 9 ⟨some 41,_,_,_,_,_⟩ ?_ hHeld ?_ ?_
  rotate_left
  ·(intro w9 hSw;(try dsimp only at hSw);go_simp)
   all_goals with_reducible rfl
  try simp only[Act.put,pk1,pk2,pk3]
  refine tk 10 ⟨some 42,_,_,_,_,_⟩ ?_ hHeld ?_ ?_
  rotate_left
  ·(intro w9 hSw;(try dsimp only at hSw);go_simp)
   all_goals with_reducible rfl
  try simp only[Act.put,pk1,pk2,pk3]
  refine wpAnyH_ready (rs:= [11]) (by kernel_rfl) (by simp) ?_
  refine(AllReadyH.cons (o:=⟨none,_,_,_,_,_⟩) rfl (fun KK hK=> ?_) AllReadyH.nil)
  ·(try rw[if_pos (by rfl)])
   refine op_store34 rfl rfl rfl hvy (by rfl) (pcs_one _) ?_
   intro w3 hn3 hg3 hz3
   have hvx:=hvx.grown hg3 (by intro e9;injection e9 with e9;omega)
   have hB:=hB.grown hg3 hB.size (fun k9 hk9=>by cases hk9;omega)
   have c5:=hvx.cell x5
   clear hg3 hz3
   refine hK.out _ _ c5 ?_
   clear hK KK hHeld
   intro hHeld
   try simp only[Act.put,pk1,pk2,pk3]
   refine tk 12 ⟨some 4,_,_,_,_,_⟩ ?_ hHeld ?_ ?_
   rotate_left
   ·(intro w9 hSw;(try dsimp only at hSw);go_simp)
    all_goals with_reducible rfl
   try simp only[Act.put,pk1,pk2,pk3]
   refine wpAnyH_done (by kernel_rfl) ?_ _
   try simp only[Act.put,pk1,pk2,pk3]
   clear hvx hvy hn3 c5
   go_wp2_with fail
   go_ret
   exact⟨rfl,hB⟩
/-- val.plain, anywhere. -/
theorem vplain_all (n:Nat) (x:Vl) (v:Value) (w:World) (hx:Rp w w.heap.size (n+1) x v) (hT:Lib.Utf8Tabs 0 1 w):Calls Tryz.prog 68 #[v] w (Gives (.bool (plainV x)) w):=by
 have up:Calls Tryz.prog 68 #[v] w (Tells (plainV x=true) w)→Calls Tryz.prog 68 #[v] w (Gives (.bool (plainV x)) w):=fun h=>h.mono fun e w' ⟨b,h1,h2,h3⟩=>⟨by
  rw[h1]
  have:b=plainV x:=by
   cases hp:plainV x with
   |true=>exact h2.2 hp
   |false=>
    cases b with
    |false=>rfl
    |true=>exact absurd (h2.1 rfl) (by rw[hp];decide)
  rw[this],h3⟩
 by_cases h0:x.k=0
 ·exact up (vplain_0 n x v w hx h0)
 by_cases h1:x.k=1
 ·exact up (vplain_1 n x v w hx h1)
 by_cases h2:x.k=2
 ·exact up (vplain_2 n x v w hx h2 hT)
 by_cases h3:x.k=3
 ·exact up (vplain_3 n x v w hx h3)
 by_cases h4:x.k=4
 ·by_cases hr:1≤x.err∧x.err≤9
  ·exact up (vplain_4 n x v w hx h4 hr)
  ·have hp:plainV x=false:=by
    cases hp:plainV x with
    |false=>rfl
    |true=>exact absurd ((plain_k4 h4).1 hp).1 hr
   rw[hp]
   obtain⟨C,rfl⟩:∃C,v= .agg C:=by obtain⟨_,_,_,e,_⟩:=hx;exact⟨_,e⟩
   have x0:C[0]? =some (.int .i64 4):=by rw[rp_kind hx,h4]
   have x5:C[5]? =some (.int .i64 x.err):=by
    obtain⟨L,Bs,Ps,e,_⟩:=hx
    injection e with e
    rw[e];rfl
   by_cases h9:¬1≤x.err
   ·exact vplain_4a C x.err w x0 x5 hx.one h9
   ·exact vplain_4b C x.err w x0 x5 hx.one ⟨by omega,by omega⟩
 ·exact up (vplain_other n x v w hx h0 h1 h2 h3 h4)
end Go.Proofs.YtkhohjdakcchdaaGreatDoor
namespace Go.Proofs.YtkhohjdakcchdaaGreatDoor
open Go Go.RowKit Go.Shelf
/-- A function's fields alone. -/
def funV (x:Vl):Vl:= {k:=6,s:=x.s,l:=x.l,fn:=x.fn,bl:=x.bl,ps:=x.ps}
theorem size_nil' (s:ByteArray):s.size=0↔s=⟨#[]⟩:=⟨fun h=>by
 obtain⟨⟨l⟩⟩:=s
 cases l with
 |nil=>rfl
 |cons a l=>exact absurd h (by simp[ByteArray.size]),fun h=>by rw[h];rfl⟩
theorem bare5 (x:Vl) (h5:x.k=5):x=arrV x.rows x.cols x.l↔bareV x 5=true:=by
 obtain⟨k,m,e,s,b,err,rows,cols,l,fn,bl,ps⟩:=x
 have h5':k=5:=h5
 subst h5'
 constructor
 ·intro h
  rw[h]
  simp[bareV,arrV,ByteArray.size]
 ·intro h
  simp only[bareV,Bool.and_eq_true,Bool.or_eq_true,beq_iff_eq,Bool.not_eq_true',List.isEmpty_iff]at h
  obtain⟨⟨⟨⟨⟨⟨h1,h2⟩,h3⟩,h4⟩,_⟩,_⟩,h7⟩:=h
  have a1:=h1.resolve_left (by decide)
  have a2:=(size_nil' s).1 ((h2.resolve_left (by decide)))
  have a3:=h3.resolve_left (by decide)
  have a4:=h4.resolve_left (by decide)
  have a7:=h7.resolve_left (by decide)
  simp[arrV,a1,a2,a3,a4,a7]
theorem bare6 (x:Vl) (h6:x.k=6):x=funV x↔bareV x 6=true:=by
 obtain⟨k,m,e,s,b,err,rows,cols,l,fn,bl,ps⟩:=x
 have h6':k=6:=h6
 subst h6'
 constructor
 ·intro h
  rw[h]
  simp[bareV,funV]
 ·intro h
  simp only[bareV,Bool.and_eq_true,Bool.or_eq_true,beq_iff_eq,Bool.not_eq_true',List.isEmpty_iff]at h
  obtain⟨⟨⟨⟨⟨⟨h1,_⟩,h3⟩,h4⟩,h5⟩,_⟩,_⟩:=h
  have a1:=h1.resolve_left (by decide)
  have a3:=h3.resolve_left (by decide)
  have a4:=h4.resolve_left (by decide)
  have a5:=h5.resolve_left (by decide)
  simp[funV,a1,a3,a4,a5]
theorem any_not (f:Vl→Bool) (l:List Vl):(!l.any fun x=> !f x)=l.all f:=by
 induction l with
 |nil=>rfl
 |cons x l ih=>simp only[List.any_cons,List.all_cons,Bool.not_or,Bool.not_not,ih]
theorem enters70 :∀args w,(callFunc 70 args).run Tryz.prog w= .ok (.enter 70 args) w:=enters_of Tryz.func70 (by kernel_rfl) rfl
set_option maxRecDepth 100000 in
set_option maxHeartbeats 4000000 in
theorem odd67 (C:Array Value) (b:Bool) (w:World) (hO:OneC C) (HV:∀W,Below w.heap.size w W→w.heap.size≤W.heap.size→Calls Tryz.prog 68 #[.agg C] W (Gives (.bool b) W)):Calls Tryz.prog 67 #[.agg C] w (Gives (.bool (!b)) w):=by
 have HO:=Lib.hid hO
 have HV:=Lib.hid HV
 clear hO
 go_enter Tryz.func67,Tryz.ntmps67
 go_wp2_with (refine wpList_load34 rfl rfl rfl (World.vb_new' _ _ _ rfl) HO.out.1 ?_)
 refine(HV.out _ ((Below.refl _ w).alloc (Nat.le_refl _) _) (by simp)).mono ?_
 rintro e3 w3 ⟨rfl,hB3⟩
 have hB:=((Below.refl _ w).alloc (Nat.le_refl _) (.cells C 34)).trans (hB3.mono (by simp))
 clear hB3
 cases b
 all_goals
  go_wp2_with fail
  go_ret
  exact⟨rfl,hB⟩
set_option maxRecDepth 100000 in
set_option maxHeartbeats 4000000 in
theorem odd70 (C:Array Value) (b:Bool) (w:World) (hO:OneC C) (HV:∀W,Below w.heap.size w W→w.heap.size≤W.heap.size→Calls Tryz.prog 27 #[.agg C] W (Gives (.bool b) W)):Calls Tryz.prog 70 #[.agg C] w (Gives (.bool (!b)) w):=by
 have HO:=Lib.hid hO
 have HV:=Lib.hid HV
 clear hO
 go_enter Tryz.func70,Tryz.ntmps70
 go_wp2_with (refine wpList_load34 rfl rfl rfl (World.vb_new' _ _ _ rfl) HO.out.1 ?_)
 refine(HV.out _ ((Below.refl _ w).alloc (Nat.le_refl _) _) (by simp)).mono ?_
 rintro e3 w3 ⟨rfl,hB3⟩
 have hB:=((Below.refl _ w).alloc (Nat.le_refl _) (.cells C 34)).trans (hB3.mono (by simp))
 clear hB3
 cases b
 all_goals
  go_wp2_with fail
  go_ret
  exact⟨rfl,hB⟩
set_option maxRecDepth 100000 in
set_option maxHeartbeats 16000000 in
theorem right_stepP (n:Nat) (IH:∀(x:Vl) (v:Value) (w:World),Rp w w.heap.size n x v→Lib.Utf8Tabs 0 1 w→Calls Tryz.prog 27 #[v] w (Gives (.bool (rightV n x)) w))
 (x:Vl) (v:Value) (w:World) (hx:Rp w w.heap.size (n+1) x v) (hT:Lib.Utf8Tabs 0 1 w):Calls Tryz.prog 27 #[v] w (Gives (.bool (rightV (n+1) x)) w):=by
 have HPL:=Lib.hid (show ∀W,Below w.heap.size w W→w.heap.size≤W.heap.size→Calls Tryz.prog 68 #[v] W (Gives (.bool (plainV x)) W)from fun W hW hz=>vplain_all n x v W (hx.below hW hz) (tabs_below hT hW))
 have HXX:=Lib.hid (show ∀W,Below w.heap.size w W→w.heap.size≤W.heap.size→Rp W W.heap.size (n+1) x v from fun W hW hz=>hx.below hW hz)
 obtain⟨L,Bs,Ps,rfl,hok,hl,hb,hp,_⟩:=hx
 have HL9:=Lib.hid hl
 have HB9:=Lib.hid hb
 have HP9:=Lib.hid hp
 obtain⟨p,c,rfl,hl1,hl2,hl3,_,_⟩:=hl
 obtain⟨p2,c2,rfl,hb1,hb2,hb3,_⟩:=hb
 obtain⟨p3,c3,rfl,hp1,hp2,hp3,_⟩:=hp
 have HN8:=Lib.hid (show ∀(z:Vl) (u:Value) (W:World),Rp W W.heap.size n z u→∃m,n=m+1 from fun z u W h=>by cases n with
  |zero=>exact h.elim
  |succ m=>exact⟨m,rfl⟩)
 have HCO5:=Lib.hid (show ∀W,Below w.heap.size w W→w.heap.size≤W.heap.size→Calls Tryz.prog 69 #[.slice p x.l.length c,.func (.func 67) #[] #[]] W (Gives (.bool (x.l.any fun y=> !plainV y)) W)from fun W hW hz=>
  contains_any n 67 enters67 (fun y=> !plainV y) x.l (.slice p x.l.length c) W (fun z u W2 hm hb2 hr2=>by
   obtain⟨C2,rfl⟩:∃C,u= .agg C:=by
    obtain⟨m,e⟩:=HN8.out z u W2 hr2
    subst e
    obtain⟨_,_,_,e,_⟩:=hr2;exact⟨_,e⟩
   refine odd67 C2 (plainV z) W2 hr2.one fun W3 hW3 hz3=> ?_
   obtain⟨m,e⟩:=HN8.out z _ W2 hr2
   subst e
   exact vplain_all m z _ W3 (hr2.below hW3 hz3) (tabs_below (tabs_below (tabs_below hT hW) hb2) hW3)) (HL9.out.imp (fun p9 hp9=>hW.cell hp9) hz (fun y9 v9 h9=>h9.below hW hz)))
 have HCO6:=Lib.hid (show ∀W,Below w.heap.size w W→w.heap.size≤W.heap.size→Calls Tryz.prog 69 #[.slice p x.l.length c,.func (.func 70) #[] #[]] W (Gives (.bool (x.l.any fun y=> !rightV n y)) W)from fun W hW hz=>
  contains_any n 70 enters70 (fun y=> !rightV n y) x.l (.slice p x.l.length c) W (fun z u W2 hm hb2 hr2=>by
   obtain⟨C2,rfl⟩:∃C,u= .agg C:=by
    obtain⟨m,e⟩:=HN8.out z u W2 hr2
    subst e
    obtain⟨_,_,_,e,_⟩:=hr2;exact⟨_,e⟩
   refine odd70 C2 (rightV n z) W2 hr2.one fun W3 hW3 hz3=> ?_
   exact IH z _ W3 (hr2.below hW3 hz3) (tabs_below (tabs_below (tabs_below hT hW) hb2) hW3)) (HL9.out.imp (fun p9 hp9=>hW.cell hp9) hz (fun y9 v9 h9=>h9.below hW hz)))
 have HY5:=Lib.hid (show ∀W,Below w.heap.size w W→w.heap.size≤W.heap.size→Rp W W.heap.size (n+1) (arrV x.rows x.cols x.l) (.agg (vcs (arrV x.rows x.cols x.l) (.slice p x.l.length c) nilS nilS))from fun W hW hz=>
  rp_arr (HL9.out.imp (fun p9 hp9=>hW.cell hp9) hz (fun y9 v9 h9=>h9.below hW hz)) (arr_ok' hok.rows hok.cols))
 have HY6:=Lib.hid (show ∀W,Below w.heap.size w W→w.heap.size≤W.heap.size→Rp W W.heap.size (n+1) (funV x) (.agg (vcs (funV x) (.slice p x.l.length c) (.slice p2 x.bl.length c2) (.slice p3 x.ps.length c3)))from fun W hW hz=>
  ⟨_,_,_,rfl,⟨(show i64R 6 from i64_one (by decide) (by decide)),i64_zero,i64_zero,hok.s,i64_zero,i64_zero,i64_zero,hok.fn⟩,HL9.out.imp (fun p9 hp9=>hW.cell hp9) hz (fun y9 v9 h9=>h9.below hW hz),HB9.out.keep (fun p9 hp9=>hW.cell hp9) hz,HP9.out.keep (fun p9 hp9=>hW.cell hp9) hz,fun h=>absurd rfl h⟩)
 have HR:=Lib.hid (right_step n x)
 obtain⟨C,hC⟩:∃C,vcs x (.slice p x.l.length c) (.slice p2 x.bl.length c2) (.slice p3 x.ps.length c3)=C:=⟨_,rfl⟩
 have HC:=Lib.hid hC
 have HO:Hid (OneC C):=Lib.hid (by rw[←hC];exact vcs_one _ _ _ _ _ _ _ _ _ _)
 have X0:Hid (C[0]? =some (.int .i64 x.k)):=Lib.hid (by rw[←hC];rfl)
 have X3:Hid (C[3]? =some (.string x.s)):=Lib.hid (by rw[←hC];rfl)
 have X6:Hid (C[6]? =some (.int .i64 x.rows)):=Lib.hid (by rw[←hC];rfl)
 have X7:Hid (C[7]? =some (.int .i64 x.cols)):=Lib.hid (by rw[←hC];rfl)
 have X8:Hid (C[8]? =some (.slice p x.l.length c)):=Lib.hid (by rw[←hC];rfl)
 have X9:Hid (C[9]? =some (.int .i64 x.fn)):=Lib.hid (by rw[←hC];rfl)
 have X10:Hid (C[10]? =some (.slice p2 x.bl.length c2)):=Lib.hid (by rw[←hC];rfl)
 have X11:Hid (C[11]? =some (.slice p3 x.ps.length c3)):=Lib.hid (by rw[←hC];rfl)
 rw[hC]at HPL HXX⊢
 have hr:=hok.rows
 have hc:=hok.cols
 have hfn:=hok.fn
 unfold i64R at hr hc hfn
 obtain⟨R,hRR⟩:∃R,rightV (n+1) x=R:=⟨_,rfl⟩
 rw[hRR]at HR⊢
 have HDM:Hid (dimsB x=true↔(1≤x.rows∧1≤x.cols∧x.rows≤400∧x.cols≤400∧x.rows*x.cols≤400∧(x.l.length:Int)=x.rows*x.cols)):=Lib.hid (by unfold dimsB;exact decide_eq_true_iff)
 have HCD:Hid (codeB x=true↔(1≤x.bl.length∧x.bl.length≤20∧x.ps.length=x.bl.length∧0≤x.fn∧x.fn<(x.bl.length:Int)∧x.l.length≤40)):=Lib.hid (by unfold codeB;exact decide_eq_true_iff)
 have HE5:=Lib.hid (bare5 x)
 have HE6:=Lib.hid (bare6 x)
 clear hC hok hRR IH HL9 HB9 HP9 HN8 hT
 unfold maxLen at hl2 hb2 hp2
 obtain⟨D,hD⟩:∃D,dimsB x=D:=⟨_,rfl⟩
 obtain⟨CB,hCB⟩:∃D,codeB x=D:=⟨_,rfl⟩
 rw[hD]at HDM HR
 rw[hCB]at HCD HR
 clear hD hCB
 obtain⟨k,hk⟩:∃k,x.k=k:=⟨_,rfl⟩
 rw[hk]at X0 HR HE5 HE6
 have hB:Below w.heap.size w (w.alloc (.cells C 34)):=(Below.refl _ w).alloc (Nat.le_refl _) _
 have hv:World.vb (w.alloc (.cells C 34)) w.heap.size C:=World.vb_new w C
 have x0:=X0.out
 have x6:=X6.out
 have x7:=X7.out
 have x8:=X8.out
 have x9:=X9.out
 have x10:=X10.out
 have x11:=X11.out
 have x3:=X3.out
 have a90:∀f:Field,([f]:List Field)[0]? =some f:=fun _=>rfl
 have a91:∀f g:Field,([f,g]:List Field)[0]? =some f:=fun _ _=>rfl
 by_cases h5:k=5
 ·have HBE:=Lib.hid (HE5.out h5)
  subst h5
  have HN0:Hid (R=(D&&(bareV x 5&&x.l.all plainV))):=Lib.hid (by rw[HR.out,if_pos rfl])
  have HYY:=HY5
  have HCO:=HCO5
  clear HY5 HY6 HCO5 HCO6 HE5 HE6 HR HPL hk x9 x10 x11 x3
  obtain⟨r,hrr⟩:∃r,x.rows=r:=⟨_,rfl⟩
  obtain⟨c',hcc⟩:∃r,x.cols=r:=⟨_,rfl⟩
  rw[hrr]at HDM hr x6 HYY HBE
  rw[hcc]at HDM hc x7 HYY HBE
  clear hrr hcc
  by_cases a1:r<1
  ·have HN:Hid (R=false):=Lib.hid (by
    have:D=false:=Bool.eq_false_iff.2 fun h=>by have:=HDM.out.1 h;omega
    rw[HN0.out,this];rfl)
   go_enter Tryz.func27,Tryz.ntmps27
   go_wp2_with fail
   go_ret
   exact⟨ret_b HN.out.symm,hB⟩
  by_cases a2:c'<1
  ·have HN:Hid (R=false):=Lib.hid (by
    have:D=false:=Bool.eq_false_iff.2 fun h=>by have:=HDM.out.1 h;omega
    rw[HN0.out,this];rfl)
   go_enter Tryz.func27,Tryz.ntmps27
   go_wp2_with fail
   go_ret
   exact⟨ret_b HN.out.symm,hB⟩
  by_cases a3:400<r
  ·have HN:Hid (R=false):=Lib.hid (by
    have:D=false:=Bool.eq_false_iff.2 fun h=>by have:=HDM.out.1 h;omega
    rw[HN0.out,this];rfl)
   go_enter Tryz.func27,Tryz.ntmps27
   go_wp2_with fail
   go_ret
   exact⟨ret_b HN.out.symm,hB⟩
  by_cases a4:400<c'
  ·have HN:Hid (R=false):=Lib.hid (by
    have:D=false:=Bool.eq_false_iff.2 fun h=>by have:=HDM.out.1 h;omega
    rw[HN0.out,this];rfl)
   go_enter Tryz.func27,Tryz.ntmps27
   go_wp2_with fail
   go_ret
   exact⟨ret_b HN.out.symm,hB⟩
  have hm0:0≤r*c':=Int.mul_nonneg (by omega) (by omega)
  have hm1:r*c'≤400*400:=Int.mul_le_mul (by omega) (by omega) (by omega) (by omega)
  obtain⟨m,hm⟩:∃m,r*c'=m:=⟨_,rfl⟩
  rw[hm]at hm0 hm1 HDM
  by_cases a5:400<m
  ·have HN:Hid (R=false):=Lib.hid (by
    have:D=false:=Bool.eq_false_iff.2 fun h=>by have:=HDM.out.1 h;omega
    rw[HN0.out,this];rfl)
   go_enter Tryz.func27,Tryz.ntmps27
   go_wp2_with fail
   go_ret
   exact⟨ret_b HN.out.symm,hB⟩
  by_cases a6:¬(x.l.length:Int)=m
  ·have HN:Hid (R=false):=Lib.hid (by
    have:D=false:=Bool.eq_false_iff.2 fun h=>by have:=HDM.out.1 h;omega
    rw[HN0.out,this];rfl)
   have f6:((x.l.length:Int) != m)=true:=by simpa using a6
   clear a6
   go_enter Tryz.func27,Tryz.ntmps27
   go_wp2_with fail
   go_ret
   exact⟨ret_b HN.out.symm,hB⟩
  have a6:=Classical.not_not.1 a6
  have f6:((x.l.length:Int) != m)=false:=by simpa using a6
  have HN1:Hid (R=(bareV x 5&&x.l.all plainV)):=Lib.hid (by rw[HN0.out,HDM.out.2 (by omega),Bool.true_and])
  clear a6 HN0
  have HSA:=Lib.hid (show ∀W,Below w.heap.size w W→w.heap.size≤W.heap.size→Calls Tryz.prog 26 #[.agg C,.agg (vcs (arrV r c' x.l) (.slice p x.l.length c) nilS nilS)] W (Tells (x=arrV r c' x.l) W)from fun W hW hz=>by
   rw[←HC.out]
   exact same_any (n+1) _ _ _ _ W (by rw[HC.out];exact HXX.out W hW hz) (HYY.out W hW hz))
  go_enter Tryz.func27,Tryz.ntmps27
  go_wp2_with (first|refine wpList_load34 rfl rfl rfl hv HO.out.1 ?_|refine wpList_build_arr x.l rfl rfl rfl rfl rfl ?_)
  refine(HSA.out _ hB hB.size).mono ?_
  rintro e3 w3 ⟨b1,rfl,hb1,hB3⟩
  have hv:=hv.below hB3 hv.lt
  have hB:=hB.trans (hB3.mono hB.size)
  clear hB3
  have c8:=hv.cell X8.out
  have HB1:=Lib.hid hb1
  clear hb1
  cases b1 with
  |false=>
   have HN:Hid (R=false):=Lib.hid (by
    have:bareV x 5=false:=Bool.eq_false_iff.2 fun h=>absurd (HB1.out.2 (HBE.out.2 h)) (by decide)
    rw[HN1.out,this];rfl)
   go_wp2_with fail
   go_ret
   exact⟨ret_b HN.out.symm,hB⟩
  |true=>
   have HN2:Hid (R=x.l.all plainV):=Lib.hid (by rw[HN1.out,HBE.out.1 (HB1.out.1 (by first|rfl|trivial)),Bool.true_and])
   go_wp2_with fail
   refine(HCO.out _ hB hB.size).mono ?_
   rintro e4 w4 ⟨rfl,hB4⟩
   have hB:=hB.trans (hB4.mono hB.size)
   clear hB4 hv c8
   have hz9:(!(x.l.any fun y=> !plainV y))=R:=by rw[HN2.out];exact any_not _ _
   generalize (x.l.any fun y=> !plainV y)=aa at hz9⊢
   cases aa
   all_goals
    go_wp2_with fail
    go_ret
    exact⟨(by first|rfl|exact ret_b hz9),hB⟩
 by_cases h6:k=6
 ·have HBE:=Lib.hid (HE6.out h6)
  subst h6
  have HN0:Hid (R=(CB&&(bareV x 6&&x.l.all (rightV n)))):=Lib.hid (by rw[HR.out,if_neg (by omega),if_pos rfl])
  have HYY:=HY6
  have HCO:=HCO6
  clear HY5 HY6 HCO5 HCO6 HE5 HE6 HR HPL hk x6 x7
  obtain⟨fn,hff⟩:∃r,x.fn=r:=⟨_,rfl⟩
  obtain⟨nb,hnb⟩:∃r,x.bl.length=r:=⟨_,rfl⟩
  obtain⟨np,hnp⟩:∃r,x.ps.length=r:=⟨_,rfl⟩
  rw[hff]at HCD hfn x9
  have HFF:=Lib.hid hff
  clear hff
  rw[hnb]at HCD x10 hb1 hb3 HYY
  rw[hnp]at HCD x11 hp1 hp3 HYY
  by_cases a1:(nb:Int)<1
  ·have HN:Hid (R=false):=Lib.hid (by
    have:CB=false:=Bool.eq_false_iff.2 fun h=>by have:=HCD.out.1 h;omega
    rw[HN0.out,this];rfl)
   go_enter Tryz.func27,Tryz.ntmps27
   go_wp2_with fail
   go_ret
   exact⟨ret_b HN.out.symm,hB⟩
  by_cases a2:(20:Int)<(nb:Int)
  ·have HN:Hid (R=false):=Lib.hid (by
    have:CB=false:=Bool.eq_false_iff.2 fun h=>by have:=HCD.out.1 h;omega
    rw[HN0.out,this];rfl)
   go_enter Tryz.func27,Tryz.ntmps27
   go_wp2_with fail
   go_ret
   exact⟨ret_b HN.out.symm,hB⟩
  by_cases a3:¬(np:Int)=(nb:Int)
  ·have HN:Hid (R=false):=Lib.hid (by
    have:CB=false:=Bool.eq_false_iff.2 fun h=>by have:=HCD.out.1 h;omega
    rw[HN0.out,this];rfl)
   have f6:((np:Int) != (nb:Int))=true:=by simpa using a3
   clear a3
   go_enter Tryz.func27,Tryz.ntmps27
   go_wp2_with fail
   go_ret
   exact⟨ret_b HN.out.symm,hB⟩
  have a3:=Classical.not_not.1 a3
  have f6:((np:Int) != (nb:Int))=false:=by simpa using a3
  by_cases a4:fn<0
  ·have HN:Hid (R=false):=Lib.hid (by
    have:CB=false:=Bool.eq_false_iff.2 fun h=>by have:=HCD.out.1 h;omega
    rw[HN0.out,this];rfl)
   go_enter Tryz.func27,Tryz.ntmps27
   go_wp2_with fail
   go_ret
   exact⟨ret_b HN.out.symm,hB⟩
  by_cases a5:(nb:Int)≤fn
  ·have HN:Hid (R=false):=Lib.hid (by
    have:CB=false:=Bool.eq_false_iff.2 fun h=>by have:=HCD.out.1 h;omega
    rw[HN0.out,this];rfl)
   go_enter Tryz.func27,Tryz.ntmps27
   go_wp2_with fail
   go_ret
   exact⟨ret_b HN.out.symm,hB⟩
  by_cases a6:(40:Int)<(x.l.length:Int)
  ·have HN:Hid (R=false):=Lib.hid (by
    have:CB=false:=Bool.eq_false_iff.2 fun h=>by have:=HCD.out.1 h;omega
    rw[HN0.out,this];rfl)
   go_enter Tryz.func27,Tryz.ntmps27
   go_wp2_with fail
   go_ret
   exact⟨ret_b HN.out.symm,hB⟩
  have HN1:Hid (R=(bareV x 6&&x.l.all (rightV n))):=Lib.hid (by rw[HN0.out,HCD.out.2 (by omega),Bool.true_and])
  clear a3 HN0
  have HSA:=Lib.hid (show ∀W,Below w.heap.size w W→w.heap.size≤W.heap.size→Calls Tryz.prog 26 #[.agg C,.agg #[.int .i64 6,.int .i64 0,.int .i64 0,.string x.s,.bool false,.int .i64 0,.int .i64 0,.int .i64 0,.slice p x.l.length c,.int .i64 fn,.slice p2 nb c2,.slice p3 np c3]] W (Tells (x=funV x) W)from fun W hW hz=>by
   rw[show #[.int .i64 6,.int .i64 0,.int .i64 0,.string x.s,.bool false,.int .i64 0,.int .i64 0,.int .i64 0,.slice p x.l.length c,.int .i64 fn,.slice p2 nb c2,.slice p3 np c3]=vcs (funV x) (.slice p x.l.length c) (.slice p2 nb c2) (.slice p3 np c3)from by rw[←HFF.out];rfl]
   exact same_any (n+1) _ _ _ _ W (HXX.out W hW hz) (HYY.out W hW hz))
  go_enter Tryz.func27,Tryz.ntmps27
  go_wp2_with (refine wpList_load34 rfl rfl rfl hv HO.out.1 ?_)
  refine(HSA.out _ hB hB.size).mono ?_
  rintro e3 w3 ⟨b1,rfl,hb1,hB3⟩
  have hv:=hv.below hB3 hv.lt
  have hB:=hB.trans (hB3.mono hB.size)
  clear hB3
  have c8:=hv.cell X8.out
  have HB1:=Lib.hid hb1
  clear hb1
  cases b1 with
  |false=>
   have HN:Hid (R=false):=Lib.hid (by
    have:bareV x 6=false:=Bool.eq_false_iff.2 fun h=>absurd (HB1.out.2 (HBE.out.2 h)) (by decide)
    rw[HN1.out,this];rfl)
   go_wp2_with fail
   go_ret
   exact⟨ret_b HN.out.symm,hB⟩
  |true=>
   have HN2:Hid (R=x.l.all (rightV n)):=Lib.hid (by rw[HN1.out,HBE.out.1 (HB1.out.1 (by first|rfl|trivial)),Bool.true_and])
   go_wp2_with fail
   refine(HCO.out _ hB hB.size).mono ?_
   rintro e4 w4 ⟨rfl,hB4⟩
   have hB:=hB.trans (hB4.mono hB.size)
   clear hB4 hv c8
   have hz9:(!(x.l.any fun y=> !(rightV n) y))=R:=by rw[HN2.out];exact any_not _ _
   generalize (x.l.any fun y=> !(rightV n) y)=aa at hz9⊢
   cases aa
   all_goals
    go_wp2_with fail
    go_ret
    exact⟨(by first|rfl|exact ret_b hz9),hB⟩
 ·have HN:Hid (R=plainV x):=Lib.hid (by rw[HR.out,if_neg h5,if_neg h6])
  have g5:(k==5)=false:=by simpa using h5
  have g6:(k==6)=false:=by simpa using h6
  generalize plainV x=PB at HPL HN
  clear h5 h6 x6 x7 x8 x9 x10 x11 x3 hk
  go_enter Tryz.func27,Tryz.ntmps27
  go_wp2_with (refine wpList_load34 rfl rfl rfl hv HO.out.1 ?_)
  refine(HPL.out _ hB hB.size).mono ?_
  rintro e1 w1 ⟨rfl,hB1⟩
  have hB:=hB.trans (hB1.mono hB.size)
  clear hB1 hv
  go_wp2_with fail
  go_ret
  exact⟨ret_b HN.out.symm,hB⟩
theorem right27_all :∀(n:Nat) (x:Vl) (v:Value) (w:World),Rp w w.heap.size n x v→Lib.Utf8Tabs 0 1 w→Calls Tryz.prog 27 #[v] w (Gives (.bool (rightV n x)) w)
 |0,_,_,_,h,_=>h.elim
 |n+1,x,v,w,hx,hT=>right_stepP n (right27_all n) x v w hx hT
end Go.Proofs.YtkhohjdakcchdaaGreatDoor
