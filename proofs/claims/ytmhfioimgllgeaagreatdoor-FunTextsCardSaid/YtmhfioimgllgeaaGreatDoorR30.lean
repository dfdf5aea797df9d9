/- Merged: Each, Ton. -/
import Derived.Test.YtmhfioimgllgeaaGreatDoorR26
import Derived.Test.YtmhfioimgllgeaaGreatDoorR28
namespace Go.Proofs.YtmhfioimgllgeaaGreatDoor
open Go Go.RowKit Go.Shelf
theorem grownBy_setCell (w:World) (a:Addr) (v:Value):w.grownBy (w.setCell a v) (some a.block):=
 ⟨rfl,rfl,rfl,Nat.le_of_eq (by simp),fun k _ hk=>heap_setCell_other w a k v (fun e=>hk (by rw[e]))⟩
theorem build_arr0 (r c:Int) (l:List Vl) (w:World):(Instr.build 39 #[(0,.int .i64 5),(5,.int .i64 r),(6,.int .i64 c)]).run Tryz.prog w= .ok (.agg (vcs (arrV r c l) nilS nilS nilS)) w:=by kernel_rfl
theorem wpList_build_arr0 {ops:Array Oper} {rest:List Oper} {o:Oper} {a:Act} {w:World} {Q:Exit→Act→World→Prop} {x y:Operand} {r c:Int} (l:List Vl) (hgd:o.guard=none) (ho:o.op= .build 39 #[(0,.const (.int .i64 5)),(5,x),(6,y)]) (hx:a.eval x= .int .i64 r) (hy:a.eval y= .int .i64 c)
 (h:wpList Tryz.prog ops Q rest (a.put o.dst (.agg (vcs (arrV r c l) nilS nilS nilS))) w):wpList Tryz.prog ops Q (o :: rest) a w:=
 wpList_plain hgd fun K hK=>by
  have hb:=build_arr0 r c l w
  have he:a.eval (.const (.int .i64 5))= .int .i64 5:=rfl
  unfold Oper.wp execOp
  simp[ho,hx,hy,he,hb]
  exact hK _ _ h
set_option maxRecDepth 100000 in
set_option maxHeartbeats 4000000 in
theorem each_one (g:Nat) (eg:∀args w,(callFunc g args).run Tryz.prog w= .ok (.enter g args) w) (f:Vl→Vl) (x:Vl) (w:World) (hp:plainV x=true) (hT:Lib.Utf8Tabs 2 3 w)
 (hg:∀W,Below w.heap.size w W→Calls Tryz.prog g #[.agg (pcs x)] W (Gives (.agg (pcs (f x))) W)):
 Calls Tryz.prog 280 #[.agg (pcs x),.func (.func g) #[] #[]] w (Gives (.agg (pcs (f x))) w):=by
 have HR:=Lib.hid (show ∀W,Below w.heap.size w W→Calls Tryz.prog 19 #[.agg (pcs x)] W (Gives (.bool true) W)from fun W hW=>right_plain_any 0 x _ W (rp_plain hp) hp (tabs_below hT hW))
 have HG:=Lib.hid hg
 have hO:=pcs_one x
 have h5:=(plain_kind hp).1
 have h6:=(plain_kind hp).2
 obtain⟨C,hC⟩:∃C,pcs x=C:=⟨_,rfl⟩
 have x0:C[0]? =some (.int .i64 x.k):=by rw[←hC];rfl
 rw[hC]at HR HG hO⊢
 have HO:=Lib.hid hO
 have X0:=Lib.hid x0
 clear hC hO hp hT hg x0
 generalize x.k=k at X0 h5 h6
 have f6:(k==6)=false:=by simpa using h6
 have f5:(k != 5)=true:=by simpa using h5
 clear h5 h6
 go_enter Tryz.func280,Tryz.ntmps280
 go_wp2_with (first|refine wpList_alloc34 rfl rfl ?_|refine wpList_load34 rfl rfl rfl ((World.vb_new w C).alloc _) HO.out.1 ?_)
 obtain⟨W,hW⟩:∃W,W=(w.alloc (.cells C 39)).alloc (.cells vz 39):=⟨_,rfl⟩
 rw[←hW]
 have hvx:World.vb W w.heap.size C:=by rw[hW];exact(World.vb_new w C).alloc _
 have hvy:World.vb W (w.heap.size+1) vz:=by rw[hW];exact World.vb_new' _ _ _ (by simp)
 have hB:Below w.heap.size w W:=by rw[hW];exact((Below.refl _ w).alloc (Nat.le_refl _) _).alloc (by simp) _
 clear hW
 refine(HR.out _ hB).mono ?_
 rintro e2 w2 ⟨rfl,hB2⟩
 have hvx:=hvx.below hB2 hvx.lt
 have hvy:=hvy.below hB2 hvy.lt
 have hB:=hB.trans (hB2.mono hB.size)
 clear hB2
 have c0:=hvx.cell X0.out
 have HGB:=HG.out _ hB
 have HGB:=Lib.hid HGB
 go_wp2_with (first|refine wpList_load34 rfl rfl rfl hvx HO.out.1 ?_|(go_at_fn g;refine HGB.out.mono ?_;rintro e3 w3 ⟨rfl,hB3⟩;have hvy:=hvy.below hB3 hvy.lt;have hB:=hB.trans (hB3.mono hB.size))|(refine wpList_store34 rfl rfl rfl rfl hvy (by rfl) (pcs_one _) ?_;intro w9 hn9 hg9 hz9))
 refine bodyPost_ret (results_cell_row rfl _ _ _ 39 _ (0,0) _ rfl hn9 Tryz.underlying39 rfl info34) rfl ?_
 exact⟨rfl,hB.grown hg9 hB.size (fun k9 hk9=>by cases hk9;omega)⟩
end Go.Proofs.YtmhfioimgllgeaaGreatDoor
namespace Go.Proofs.YtmhfioimgllgeaaGreatDoor
open Go Go.RowKit Go.Shelf
theorem enters76 :∀args w,(callFunc 281 args).run Tryz.prog w= .ok (.enter 281 args) w:=enters_of Tryz.func281 (by kernel_rfl) rfl
set_option maxRecDepth 100000 in
set_option maxHeartbeats 4000000 in
theorem tonum_one (x:Vl) (w:World) (hx:plainV x=true) (hT:Lib.Utf8Tabs 2 3 w) (hS:Shp w):Calls Tryz.prog 220 #[.agg (pcs x)] w (Gives (.agg (pcs (numT x))) w):=by
 have HE:=Lib.hid (show ∀W,Below w.heap.size w W→Calls Tryz.prog 280 #[.agg (pcs x),.func (.func 281) #[] #[]] W (Gives (.agg (pcs (numT x))) W)from fun W hW=>
  each_one 281 enters76 numT x W hx (tabs_below hT hW) (fun W2 hW2=>by
   have hW:=hW.trans (hW2.mono hW.size)
   clear hW2
   revert hW
   intro hW
   exact(fun W (hW:Below w.heap.size w W)=>num76_any x W hx (hS.below hW)) W2 hW))
 clear hT hx hS
 obtain⟨C,hC⟩:∃C,pcs x=C:=⟨_,rfl⟩
 obtain⟨C',hC'⟩:∃C,pcs (numT x)=C:=⟨_,rfl⟩
 have hO':=pcs_one (numT x)
 have HO:Hid (OneC C):=Lib.hid (by rw[←hC];exact pcs_one x)
 rw[hC,hC']at HE
 rw[hC']at hO'
 rw[hC,hC']
 have HO':=Lib.hid hO'
 clear hC hC' hO'
 go_enter Tryz.func220,Tryz.ntmps220
 go_wp2_with (first|refine wpList_alloc34 rfl rfl ?_|refine wpList_load34 rfl rfl rfl ((World.vb_new w C).alloc _) HO.out.1 ?_)
 obtain⟨W,hW⟩:∃W,W=(w.alloc (.cells C 39)).alloc (.cells vz 39):=⟨_,rfl⟩
 rw[←hW]
 have hvy:World.vb W (w.heap.size+1) vz:=by rw[hW];exact World.vb_new' _ _ _ (by simp)
 have hB:Below w.heap.size w W:=by rw[hW];exact((Below.refl _ w).alloc (Nat.le_refl _) _).alloc (by simp) _
 clear hW
 refine(HE.out _ hB).mono ?_
 rintro e2 w2 ⟨rfl,hB2⟩
 have hvy:=hvy.below hB2 hvy.lt
 have hB:=hB.trans (hB2.mono hB.size)
 clear hB2
 go_wp2_with (refine wpList_store34 rfl rfl rfl rfl hvy (by rfl) HO'.out ?_;intro w9 hn9 hg9 hz9)
 refine bodyPost_ret (results_cell_row rfl _ _ _ 39 _ (0,0) _ rfl hn9 Tryz.underlying39 rfl (by rw[HO'.out.1];exact info34)) rfl ?_
 exact⟨rfl,hB.grown hg9 hB.size (fun k9 hk9=>by cases hk9;omega)⟩
theorem enters77 :∀args w,(callFunc 283 args).run Tryz.prog w= .ok (.enter 283 args) w:=enters_of Tryz.func283 (by kernel_rfl) rfl
set_option maxRecDepth 100000 in
set_option maxHeartbeats 4000000 in
theorem totxt_one (x:Vl) (w:World) (hx:plainV x=true) (hT:Lib.Utf8Tabs 2 3 w):Calls Tryz.prog 221 #[.agg (pcs x)] w (Gives (.agg (pcs (txtT x))) w):=by
 have HE:=Lib.hid (show ∀W,Below w.heap.size w W→Calls Tryz.prog 280 #[.agg (pcs x),.func (.func 283) #[] #[]] W (Gives (.agg (pcs (txtT x))) W)from fun W hW=>
  each_one 283 enters77 txtT x W hx (tabs_below hT hW) (fun W2 hW2=>by
   have hW:=hW.trans (hW2.mono hW.size)
   clear hW2
   revert hW
   intro hW
   exact(fun W (hW:Below w.heap.size w W)=>txt77_any x W hx) W2 hW))
 clear hT hx
 obtain⟨C,hC⟩:∃C,pcs x=C:=⟨_,rfl⟩
 obtain⟨C',hC'⟩:∃C,pcs (txtT x)=C:=⟨_,rfl⟩
 have hO':=pcs_one (txtT x)
 have HO:Hid (OneC C):=Lib.hid (by rw[←hC];exact pcs_one x)
 rw[hC,hC']at HE
 rw[hC']at hO'
 rw[hC,hC']
 have HO':=Lib.hid hO'
 clear hC hC' hO'
 go_enter Tryz.func221,Tryz.ntmps221
 go_wp2_with (first|refine wpList_alloc34 rfl rfl ?_|refine wpList_load34 rfl rfl rfl ((World.vb_new w C).alloc _) HO.out.1 ?_)
 obtain⟨W,hW⟩:∃W,W=(w.alloc (.cells C 39)).alloc (.cells vz 39):=⟨_,rfl⟩
 rw[←hW]
 have hvy:World.vb W (w.heap.size+1) vz:=by rw[hW];exact World.vb_new' _ _ _ (by simp)
 have hB:Below w.heap.size w W:=by rw[hW];exact((Below.refl _ w).alloc (Nat.le_refl _) _).alloc (by simp) _
 clear hW
 refine(HE.out _ hB).mono ?_
 rintro e2 w2 ⟨rfl,hB2⟩
 have hvy:=hvy.below hB2 hvy.lt
 have hB:=hB.trans (hB2.mono hB.size)
 clear hB2
 go_wp2_with (refine wpList_store34 rfl rfl rfl rfl hvy (by rfl) HO'.out ?_;intro w9 hn9 hg9 hz9)
 refine bodyPost_ret (results_cell_row rfl _ _ _ 39 _ (0,0) _ rfl hn9 Tryz.underlying39 rfl (by rw[HO'.out.1];exact info34)) rfl ?_
 exact⟨rfl,hB.grown hg9 hB.size (fun k9 hk9=>by cases hk9;omega)⟩
theorem enters78 :∀args w,(callFunc 285 args).run Tryz.prog w= .ok (.enter 285 args) w:=enters_of Tryz.func285 (by kernel_rfl) rfl
set_option maxRecDepth 100000 in
set_option maxHeartbeats 4000000 in
theorem totru_one (x:Vl) (w:World) (hx:plainV x=true) (hT:Lib.Utf8Tabs 2 3 w):Calls Tryz.prog 222 #[.agg (pcs x)] w (Gives (.agg (pcs (truT x))) w):=by
 have HE:=Lib.hid (show ∀W,Below w.heap.size w W→Calls Tryz.prog 280 #[.agg (pcs x),.func (.func 285) #[] #[]] W (Gives (.agg (pcs (truT x))) W)from fun W hW=>
  each_one 285 enters78 truT x W hx (tabs_below hT hW) (fun W2 hW2=>by
   have hW:=hW.trans (hW2.mono hW.size)
   clear hW2
   revert hW
   intro hW
   exact(fun W (hW:Below w.heap.size w W)=>tru78_any x W hx) W2 hW))
 clear hT hx
 obtain⟨C,hC⟩:∃C,pcs x=C:=⟨_,rfl⟩
 obtain⟨C',hC'⟩:∃C,pcs (truT x)=C:=⟨_,rfl⟩
 have hO':=pcs_one (truT x)
 have HO:Hid (OneC C):=Lib.hid (by rw[←hC];exact pcs_one x)
 rw[hC,hC']at HE
 rw[hC']at hO'
 rw[hC,hC']
 have HO':=Lib.hid hO'
 clear hC hC' hO'
 go_enter Tryz.func222,Tryz.ntmps222
 go_wp2_with (first|refine wpList_alloc34 rfl rfl ?_|refine wpList_load34 rfl rfl rfl ((World.vb_new w C).alloc _) HO.out.1 ?_)
 obtain⟨W,hW⟩:∃W,W=(w.alloc (.cells C 39)).alloc (.cells vz 39):=⟨_,rfl⟩
 rw[←hW]
 have hvy:World.vb W (w.heap.size+1) vz:=by rw[hW];exact World.vb_new' _ _ _ (by simp)
 have hB:Below w.heap.size w W:=by rw[hW];exact((Below.refl _ w).alloc (Nat.le_refl _) _).alloc (by simp) _
 clear hW
 refine(HE.out _ hB).mono ?_
 rintro e2 w2 ⟨rfl,hB2⟩
 have hvy:=hvy.below hB2 hvy.lt
 have hB:=hB.trans (hB2.mono hB.size)
 clear hB2
 go_wp2_with (refine wpList_store34 rfl rfl rfl rfl hvy (by rfl) HO'.out ?_;intro w9 hn9 hg9 hz9)
 refine bodyPost_ret (results_cell_row rfl _ _ _ 39 _ (0,0) _ rfl hn9 Tryz.underlying39 rfl (by rw[HO'.out.1];exact info34)) rfl ?_
 exact⟨rfl,hB.grown hg9 hB.size (fun k9 hk9=>by cases hk9;omega)⟩
end Go.Proofs.YtmhfioimgllgeaaGreatDoor
