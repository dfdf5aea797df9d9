/- Merged: Fau, Log, Joi, Fcl. -/
import Derived.Test.YtmhfioimgllgeaaGreatDoorV50
namespace Go.Proofs.YtmhfioimgllgeaaGreatDoor
open Go Go.RowKit Go.Shelf
theorem isfault_err (k:Int) (W:World):Calls Tryz.prog 144 #[.agg (pcs (errV k))] W (Gives (.bool true) W):=isfault_any (errV k) (pcs (errV k)) W rfl (pcs_one _)
theorem els_0 {x:Vl} {r:List Vl} {g:Nat} {w:World} (h:Els (x :: r) g 0 w) (j:Nat) (u:Value) (hj:(pcs x)[j]? =some u):w.cell? ⟨g,0+j,none⟩=some u:=by
 have:=h.2 0 x rfl j u hj
 rwa [Nat.zero_mul,Nat.add_zero]at this
theorem vr_0 {w:World} {base g n cap:Nat} {x:Vl} {r:List Vl} (h:World.vr w base (.slice (some ⟨g,0,none⟩) n cap) (x :: r)) (j:Nat) (u:Value) (hj:(pcs x)[j]? =some u):w.cell? ⟨g,0+j,none⟩=some u:=by
 have:=vr_cells h (k:=0) rfl j u hj
 rwa [Nat.zero_mul]at this
theorem vr_1 {w:World} {base g n cap:Nat} {y x:Vl} {r:List Vl} (h:World.vr w base (.slice (some ⟨g,0,none⟩) n cap) (y :: x :: r)) (j:Nat) (u:Value) (hj:(pcs x)[j]? =some u):w.cell? ⟨g,12+j,none⟩=some u:=by
 have:=vr_cells h (k:=1) rfl j u hj
 rwa [Nat.one_mul]at this
set_option maxRecDepth 100000 in
set_option maxHeartbeats 4000000 in
theorem carry_bad1 (k:Int) (g c:Nat) (u:Value) (w:World) (hE:Els [errV k] g 0 w):Calls Tryz.prog 262 #[.slice (some ⟨g,0,none⟩) 1 c,u] w (Gives (.agg (pcs (errV k))) w):=by
 have hB0:Below w.heap.size w (w.alloc (.cells vz 39)):=(Below.refl _ w).alloc (Nat.le_refl _) _
 have hv0:World.vb (w.alloc (.cells vz 39)) w.heap.size vz:=World.vb_new w vz
 have HC:=Lib.hid (show ∀W,Below w.heap.size w W→∀j u,(pcs (errV k))[j]? =some u→W.cell? ⟨g,0+j,none⟩=some u from fun W hW=>els_0 (hE.below hW))
 clear hE
 go_enter Tryz.func262,Tryz.ntmps262
 go_wp2_with (first|refine wpList_alloc34 rfl rfl ?_|refine wpList_load34at rfl rfl rfl rfl (HC.out _ hB0) ?_|(go_at_call 144;refine(isfault_err k _).mono ?_;rintro e w1 ⟨rfl,hB1⟩;have hvy:=hv0.below hB1 hv0.lt;have hB:=hB0.trans (hB1.mono hB0.size))|refine wpList_load34at rfl rfl rfl rfl (HC.out _ hB) ?_|(refine wpList_store34 rfl rfl rfl rfl hvy (by rfl) (pcs_one _) ?_;intro w9 hn9 hg9 hz9))
 refine bodyPost_ret (results_cell_row rfl _ _ _ 39 _ (0,0) _ rfl hn9 Tryz.underlying39 rfl info34) rfl ?_
 exact⟨rfl,hB.grown hg9 hB.size (fun k9 hk9=>by cases hk9;omega)⟩
set_option maxRecDepth 100000 in
set_option maxHeartbeats 4000000 in
theorem carry_bad2 (k:Int) (v:Vl) (g c:Nat) (u:Value) (w:World) (hE:Els [errV k,v] g 0 w):Calls Tryz.prog 262 #[.slice (some ⟨g,0,none⟩) 2 c,u] w (Gives (.agg (pcs (errV k))) w):=by
 have hB0:Below w.heap.size w (w.alloc (.cells vz 39)):=(Below.refl _ w).alloc (Nat.le_refl _) _
 have hv0:World.vb (w.alloc (.cells vz 39)) w.heap.size vz:=World.vb_new w vz
 have HC:=Lib.hid (show ∀W,Below w.heap.size w W→∀j u,(pcs (errV k))[j]? =some u→W.cell? ⟨g,0+j,none⟩=some u from fun W hW=>els_0 (hE.below hW))
 clear hE
 go_enter Tryz.func262,Tryz.ntmps262
 go_wp2_with (first|refine wpList_alloc34 rfl rfl ?_|refine wpList_load34at rfl rfl rfl rfl (HC.out _ hB0) ?_|(go_at_call 144;refine(isfault_err k _).mono ?_;rintro e w1 ⟨rfl,hB1⟩;have hvy:=hv0.below hB1 hv0.lt;have hB:=hB0.trans (hB1.mono hB0.size))|refine wpList_load34at rfl rfl rfl rfl (HC.out _ hB) ?_|(refine wpList_store34 rfl rfl rfl rfl hvy (by rfl) (pcs_one _) ?_;intro w9 hn9 hg9 hz9))
 refine bodyPost_ret (results_cell_row rfl _ _ _ 39 _ (0,0) _ rfl hn9 Tryz.underlying39 rfl info34) rfl ?_
 exact⟨rfl,hB.grown hg9 hB.size (fun k9 hk9=>by cases hk9;omega)⟩
set_option maxRecDepth 100000 in
set_option maxHeartbeats 4000000 in
theorem iferr_bad (k:Int) (v:Vl) (base g c:Nat) (w:World) (hr:World.vr w base (.slice (some ⟨g,0,none⟩) 2 c) [errV k,v]):Calls Tryz.prog 143 #[.slice (some ⟨g,0,none⟩) 2 c] w (Gives (.agg (pcs v)) w):=by
 have hB0:Below w.heap.size w (w.alloc (.cells vz 39)):=(Below.refl _ w).alloc (Nat.le_refl _) _
 have hv0:World.vb (w.alloc (.cells vz 39)) w.heap.size vz:=World.vb_new w vz
 have HC:=Lib.hid (show ∀W,Below w.heap.size w W→∀j u,(pcs (errV k))[j]? =some u→W.cell? ⟨g,0+j,none⟩=some u from fun W hW=>vr_0 (World.vr.below hr hW))
 have HD:=Lib.hid (show ∀W,Below w.heap.size w W→∀j u,(pcs v)[j]? =some u→W.cell? ⟨g,12+j,none⟩=some u from fun W hW=>vr_1 (World.vr.below hr hW))
 clear hr
 go_enter Tryz.func143,Tryz.ntmps143
 go_wp2_with (first|refine wpList_alloc34 rfl rfl ?_|refine wpList_load34at rfl rfl rfl rfl (HC.out _ hB0) ?_|(go_at_call 144;refine(isfault_err k _).mono ?_;rintro e w1 ⟨rfl,hB1⟩;have hvy:=hv0.below hB1 hv0.lt;have hB:=hB0.trans (hB1.mono hB0.size))|refine wpList_load34at rfl rfl rfl rfl (HD.out _ hB) ?_|(refine wpList_store34 rfl rfl rfl rfl hvy (by rfl) (pcs_one _) ?_;intro w9 hn9 hg9 hz9))
 refine bodyPost_ret (results_cell_row rfl _ _ _ 39 _ (0,0) _ rfl hn9 Tryz.underlying39 rfl info34) rfl ?_
 exact⟨rfl,hB.grown hg9 hB.size (fun k9 hk9=>by cases hk9;omega)⟩
set_option maxRecDepth 100000 in
set_option maxHeartbeats 4000000 in
theorem ifna_bad_y (v:Vl) (base g c:Nat) (w:World) (hr:World.vr w base (.slice (some ⟨g,0,none⟩) 2 c) [errV 7,v]):Calls Tryz.prog 145 #[.slice (some ⟨g,0,none⟩) 2 c] w (Gives (.agg (pcs v)) w):=by
 have hB0:Below w.heap.size w (w.alloc (.cells vz 39)):=(Below.refl _ w).alloc (Nat.le_refl _) _
 have hv0:World.vb (w.alloc (.cells vz 39)) w.heap.size vz:=World.vb_new w vz
 have HC:=Lib.hid (show ∀W,Below w.heap.size w W→∀j u,(pcs (errV 7))[j]? =some u→W.cell? ⟨g,0+j,none⟩=some u from fun W hW=>vr_0 (World.vr.below hr hW))
 have HD:=Lib.hid (show ∀W,Below w.heap.size w W→∀j u,(pcs v)[j]? =some u→W.cell? ⟨g,12+j,none⟩=some u from fun W hW=>vr_1 (World.vr.below hr hW))
 clear hr
 go_enter Tryz.func145,Tryz.ntmps145
 go_wp2_with (first|refine wpList_alloc34 rfl rfl ?_|refine wpList_load34at rfl rfl rfl rfl (HC.out _ hB0) ?_|(go_at_call 144;refine(isfault_err 7 _).mono ?_;rintro e w1 ⟨rfl,hB1⟩;have hvy:=hv0.below hB1 hv0.lt;have hB:=hB0.trans (hB1.mono hB0.size);have c4:w1.cell? ⟨g,5,none⟩=some (.int .i64 7):=HC.out _ hB 5 _ rfl)|refine wpList_load34at rfl rfl rfl rfl (HD.out _ hB) ?_|(refine wpList_store34 rfl rfl rfl rfl hvy (by rfl) (pcs_one _) ?_;intro w9 hn9 hg9 hz9))
 refine bodyPost_ret (results_cell_row rfl _ _ _ 39 _ (0,0) _ rfl hn9 Tryz.underlying39 rfl info34) rfl ?_
 exact⟨rfl,hB.grown hg9 hB.size (fun k9 hk9=>by cases hk9;omega)⟩
set_option maxRecDepth 100000 in
set_option maxHeartbeats 4000000 in
theorem ifna_bad_n (k:Int) (v:Vl) (hk:¬k=7) (base g c:Nat) (w:World) (hr:World.vr w base (.slice (some ⟨g,0,none⟩) 2 c) [errV k,v]):Calls Tryz.prog 145 #[.slice (some ⟨g,0,none⟩) 2 c] w (Gives (.agg (pcs (errV k))) w):=by
 have hB0:Below w.heap.size w (w.alloc (.cells vz 39)):=(Below.refl _ w).alloc (Nat.le_refl _) _
 have hv0:World.vb (w.alloc (.cells vz 39)) w.heap.size vz:=World.vb_new w vz
 have HC:=Lib.hid (show ∀W,Below w.heap.size w W→∀j u,(pcs (errV k))[j]? =some u→W.cell? ⟨g,0+j,none⟩=some u from fun W hW=>vr_0 (World.vr.below hr hW))
 have HD:=Lib.hid (show ∀W,Below w.heap.size w W→∀j u,(pcs v)[j]? =some u→W.cell? ⟨g,12+j,none⟩=some u from fun W hW=>vr_1 (World.vr.below hr hW))
 clear hr
 go_enter Tryz.func145,Tryz.ntmps145
 go_wp2_with (first|refine wpList_alloc34 rfl rfl ?_|refine wpList_load34at rfl rfl rfl rfl (HC.out _ hB0) ?_|(go_at_call 144;refine(isfault_err k _).mono ?_;rintro e w1 ⟨rfl,hB1⟩;have hvy:=hv0.below hB1 hv0.lt;have hB:=hB0.trans (hB1.mono hB0.size);have c4:w1.cell? ⟨g,5,none⟩=some (.int .i64 k):=HC.out _ hB 5 _ rfl)|refine wpList_load34at rfl rfl rfl rfl (HC.out _ hB) ?_|(refine wpList_store34 rfl rfl rfl rfl hvy (by rfl) (pcs_one _) ?_;intro w9 hn9 hg9 hz9))
 refine bodyPost_ret (results_cell_row rfl _ _ _ 39 _ (0,0) _ rfl hn9 Tryz.underlying39 rfl info34) rfl ?_
 exact⟨rfl,hB.grown hg9 hB.size (fun k9 hk9=>by cases hk9;omega)⟩
set_option maxRecDepth 100000 in
set_option maxHeartbeats 4000000 in
theorem kind_err (k:Int) (p:Value) (w:World) (hb:Bx w p (.int .i64 4)):Calls Tryz.prog 241 #[.agg (pcs (errV k)),p] w (Gives (.bool true) w):=by
 obtain⟨b,t,rfl,hbx⟩:=hb
 have hB0:Below w.heap.size w (w.alloc (.cells (pcs (errV k)) 39)):=(Below.refl _ w).alloc (Nat.le_refl _) _
 have hv0:World.vb (w.alloc (.cells (pcs (errV k)) 39)) w.heap.size (pcs (errV k)):=World.vb_new w _
 have c0:(w.alloc (.cells (pcs (errV k)) 39)).cell? ⟨w.heap.size,0,none⟩=some (.int .i64 4):=hv0.cell rfl
 have cb:(w.alloc (.cells (pcs (errV k)) 39)).cell? ⟨b,0,none⟩=some (.int .i64 4):=(hbx.below hB0 hbx.lt).cell (j:=0) rfl
 have hcl:(pcs (errV k)).all (·.oneCell')=true:=(pcs_one _).2
 go_enter Tryz.func241,Tryz.ntmps241
 go_wp2_with fail
 go_ret
 exact⟨rfl,(Below.refl _ w).alloc (Nat.le_refl _) _⟩
theorem wpStill_load34at {ops:Array Oper} {rest:List Oper} {o:Oper} {a:Act} {w:World} {Q:Act→Prop} {x:Operand} {g off:Nat} {cs:Array Value} (hgd:o.guard=none) (ho:o.op= .load 39 x) (hx:a.eval x= .pointer (some ⟨g,off,none⟩)) (hs:cs.size=12) (hc:∀j u,cs[j]? =some u→w.cell? ⟨g,off+j,none⟩=some u) (h:wpStill Tryz.prog ops w Q rest (a.put o.dst (.agg cs))):wpStill Tryz.prog ops w Q (o :: rest) a:=by
 refine wpStill_step (fun K hK=> ?_)
 have:=run_load_at w g off 39 cs _ hc Tryz.underlying39 rfl (by rw[hs];exact info34)
 have hw:Region.wanted o (yielded ops a.tmps)=true:=by simp[Region.wanted,hgd]
 rw[if_pos hw]
 unfold Oper.still execOp
 simp only[ho,hx,Instr.loadAt,Instr.sureAddr,Sem.run_bind,Sem.run_pure,Result.andThen_ok,this]
 exact⟨rfl,hK _ h⟩
set_option maxRecDepth 100000 in
set_option maxHeartbeats 4000000 in
theorem is_err (k:Int) (p q:Value) (base g c:Nat) (w:World) (hb:Bx w p (.func (.func 241) #[] #[q])) (hq:Bx w q (.int .i64 4)) (hr:World.vr w base (.slice (some ⟨g,0,none⟩) 1 c) [errV k]):Calls Tryz.prog 242 #[.slice (some ⟨g,0,none⟩) 1 c,p] w (Gives (.agg (pcs (trV true))) w):=by
 obtain⟨b,t,rfl,hbx⟩:=hb
 have hB0:Below w.heap.size w (w.alloc (.cells vz 39)):=(Below.refl _ w).alloc (Nat.le_refl _) _
 have hv0:World.vb (w.alloc (.cells vz 39)) w.heap.size vz:=World.vb_new w vz
 have HC:=Lib.hid (show ∀W,Below w.heap.size w W→∀j u,(pcs (errV k))[j]? =some u→W.cell? ⟨g,0+j,none⟩=some u from fun W hW=>vr_0 (World.vr.below hr hW))
 have cb:(w.alloc (.cells vz 39)).cell? ⟨b,0,none⟩=some (.func (.func 241) #[] #[q]):=(hbx.below hB0 hbx.lt).cell (j:=0) rfl
 have HQ:=Lib.hid (hq.below hB0)
 clear hr hbx hq
 go_enter Tryz.func242,Tryz.ntmps242
 go_upto_region 1 with (refine wpList_alloc34 rfl rfl ?_)
 obtain⟨W,hW⟩:∃W,W=w.alloc (.cells vz 39):=⟨_,rfl⟩
 rw[←hW]at hB0 hv0 cb HQ⊢
 clear hW
 have hB0:Below w.heap.size w W.drew:=hB0.drew
 have hv0:World.vb W.drew w.heap.size vz:=World.vb.drew hv0
 have HQ:=Lib.hid (show Bx W.drew q (.int .i64 4)from HQ.out.below (Below.refl _ W).drew)
 have hc:=HC.out _ hB0
 refine wp_region_still_tail 4 (by kernel_rfl) (by kernel_rfl) ?_
 change wpStill _ _ W.drew _ _ _
 simp only[List.take_succ_cons,List.take_zero,List.drop_succ_cons,List.drop_zero]
 iterate 3 still_step
 refine wpStill_load34at rfl rfl rfl rfl hc ?_
 simp only[Act.put,List.setIfInBounds_toArray,List.set_cons_zero,List.set_cons_succ]
 refine wpStill_nil ?_
 change wpList _ _ _ _ _ W.drew
 clear hc
 go_wp2_with fail
 refine(kind_err k q _ HQ.out).mono ?_
 rintro e w1 ⟨rfl,hB1⟩
 have hvy:=hv0.below hB1 hv0.lt
 have hB:=hB0.trans (hB1.mono hB0.size)
 go_wp2_with (first|(go_at_call 137;refine(truthF_any true _).mono ?_;rintro e w2 ⟨rfl,hB2⟩;have hB:=hB.trans (hB2.mono hB.size);have hvy:=hvy.below hB2 hvy.lt)|(refine wpList_store34 rfl rfl rfl rfl hvy (by rfl) (pcs_one _) ?_;intro w9 hn9 hg9 hz9))
 refine bodyPost_ret (results_cell_row rfl _ _ _ 39 _ (0,0) _ rfl hn9 Tryz.underlying39 rfl info34) rfl ?_
 exact⟨rfl,hB.grown hg9 hB.size (fun k9 hk9=>by cases hk9;omega)⟩
set_option maxRecDepth 100000 in
set_option maxHeartbeats 8000000 in
theorem gathered_bad (_:Nat) (y:Vl) (xs:List Vl) (hf:(numY xs).find? isF=some y) (L u:Value) (w:World) (hA:ArgsAt w L xs) (hn:xs.length≤25) (hE:Env w):
 Calls Tryz.prog 253 #[L,u] w (Gives (.agg (pcs y)) w):=by
 have hB0:Below w.heap.size w (w.alloc (.cells vz 39)):=(Below.refl _ w).alloc (Nat.le_refl _) _
 have hv0:World.vb (w.alloc (.cells vz 39)) w.heap.size vz:=World.vb_new w vz
 have HN:=Lib.hid (numbers_any xs L _ (hA.below hB0) hn (hE.below hB0))
 have HF:=Lib.hid hf
 obtain⟨p,c,rfl,_⟩:=id hA.1
 clear hA hn hE hf
 go_enter Tryz.func253,Tryz.ntmps253
 go_wp2_with (refine wpList_alloc34 rfl rfl ?_)
 refine HN.out.mono ?_
 rintro e w1 ⟨v,y',rfl,hB1,hr⟩
 have hB:=hB0.trans (hB1.mono hB0.size)
 have hvy:=hv0.below hB1 hv0.lt
 have hvl:=hvy.lt
 clear HN hB0 hB1 hv0
 have hv:y'=y:=by
  rcases hr with ⟨hf,_⟩|⟨hf,_⟩
  ·have:=hf.symm.trans HF.out
   injection this
  ·have:=hf.symm.trans HF.out
   cases this
 subst hv
 obtain rfl:v=nilS:=by
  rcases hr with ⟨_,e⟩|⟨hf,_⟩
  ·exact e
  ·have:=hf.symm.trans HF.out
   cases this
 clear hr
 have hyk:(y'.k==4)=true:=by
  have h:=List.find?_some HF.out
  exact h
 have HI:=Lib.hid (fun W=>isfault_any y' (pcs y') W rfl (pcs_one y'))
 rw[hyk]at HI
 clear hyk HF
 go_wp2_with (first|refine wpList_alloc34 rfl rfl ?_|(refine wpList_store34 rfl rfl rfl rfl (World.vb_new' _ _ _ rfl) (by rfl) (pcs_one _) ?_;intro w2 hn2 hg2 hz2;have hb2:Below w1.heap.size w1 w2:=((Below.refl _ w1).alloc (Nat.le_refl _) (.cells vz 39)).grown hg2 (by simp) (fun k hk=>by cases hk;exact Nat.le_refl _);have hvy:=hvy.below hb2 hvy.lt;have hB:=hB.trans (hb2.mono hB.size))|refine wpList_load34 rfl rfl rfl hn2 (by rfl) ?_|(go_at_call 144;refine(HI.out _).mono ?_;rintro e w3 ⟨rfl,hB3⟩;have hn2:=hn2.below hB3 hn2.lt;have hvy:=hvy.below hB3 hvy.lt;have hB:=hB.trans (hB3.mono hB.size))|(refine wpList_store34 rfl rfl rfl rfl hvy (by rfl) (pcs_one _) ?_;intro w9 hn9 hg9 hz9))
 refine bodyPost_ret (results_cell_row rfl _ _ _ 39 _ (0,0) _ rfl hn9 Tryz.underlying39 rfl info34) rfl ?_
 exact⟨rfl,hB.grown hg9 hB.size (fun k9 hk9=>by cases hk9;omega)⟩
end Go.Proofs.YtmhfioimgllgeaaGreatDoor
namespace Go.Proofs.YtmhfioimgllgeaaGreatDoor
open Go Go.RowKit Go.Shelf
theorem els_k {l:List Vl} {g k:Nat} {x:Vl} {w:World} (h:Els l g 0 w) (hx:l[k]? =some x) (j:Nat) (u:Value) (hj:(pcs x)[j]? =some u):w.cell? ⟨g,k*12+j,none⟩=some u:=by
 have:=h.2 k x hx j u hj
 rwa [Nat.zero_add]at this
def cntB (l:List Vl):Nat:=l.countP (·.b)
noncomputable def logV (bf:Nat→Nat→Bool) (xs:List Vl):Vl:=match xs.find? isF with
 |some y=>y
 |none=>trV (bf xs.length (cntB xs))
theorem cntB_len (l:List Vl):cntB l≤l.length:=List.countP_le_length
set_option maxRecDepth 100000 in
set_option maxHeartbeats 8000000 in
theorem logic_any (gd:Nat) (eg:∀args w,(callFunc gd args).run Tryz.prog w= .ok (.enter gd args) w) (bf:Nat→Nat→Bool) (hg:∀(a b:Nat) (W:World),a≤25→b≤a→Calls Tryz.prog gd #[.int .i64 (a:Int),.int .i64 (b:Int)] W (Gives (.bool (bf a b)) W)) (xs:List Vl) (hx:∀x∈xs,(∃n,x=errV n∧plainV x=true)∨∃b,x=trV b) (hne:xs≠ []) (hn:xs.length≤25) (g c:Nat) (u:Value) (w:World) (hE:Els xs g 0 w) (hV:Env w) (hb:Bx w u (.func (.func gd) #[] #[])):
 Calls Tryz.prog 261 #[.slice (some ⟨g,0,none⟩) xs.length c,u] w (Gives (.agg (pcs (logV bf xs))) w):=by
 obtain⟨b,t,rfl,hbx⟩:=hb
 have hbl:=hbx.lt
 have HEL:=Lib.hid (show ∀W,Below w.heap.size w W→Els xs g 0 W from fun W hW=>hE.below hW)
 have HBX:=Lib.hid (show ∀W,Below w.heap.size w W→World.blk W b t #[.func (.func gd) #[] #[]]from fun W hW=>hbx.below hW hbl)
 have HEN:=Lib.hid (show ∀W,Below w.heap.size w W→Env W from fun W hW=>hV.below hW)
 have HG:=Lib.hid hg
 have HX:=Lib.hid hx
 have HNE:=Lib.hid hne
 clear hE hV hbx hg hx hne hbl
 go_enter Tryz.func261,Tryz.ntmps261
 go_wp2_with (refine wpList_alloc34 rfl rfl ?_)
 have hvy0:World.vb (w.alloc (.cells vz 39)) w.heap.size vz:=World.vb_new w vz
 have hB0:Below w.heap.size w (w.alloc (.cells vz 39)):=(Below.refl _ w).alloc (Nat.le_refl _) _
 go_loopw [4,5,13] (fun s y i wr=>∃K:Nat,i= .int .i64 (K:Int)∧s= .int .i64 (K:Int)∧y= .int .i64 (cntB (xs.take K):Int)∧K≤xs.length∧Hid ((xs.take K).find? isF=none)∧Hid (World.vb wr w.heap.size vz)∧Below w.heap.size w wr) (fun _ _ i _=>xs.length-(intOf i).toNat)
 case atStart=>exact⟨0,rfl,rfl,rfl,Nat.zero_le _,rfl,hvy0,hB0⟩
 case round=>
  clear hvy0 hB0
  obtain⟨K,rfl,rfl,rfl,hK,HF,HV,hB⟩:=hrel
  by_cases hlt:K<xs.length
  ·have hKI:(K:Int)<(xs.length:Int):=by omega
   have hK25:K<25:=by omega
   obtain⟨x,hxK⟩:∃z,xs[K]? =some z:=⟨_,List.getElem?_eq_getElem hlt⟩
   have hcell:=els_k (HEL.out wr hB) hxK
   have HTK:=Lib.hid (show xs.take (K+1)=xs.take K++ [x] by rw[List.take_add_one,hxK];rfl)
   have hxx:=HX.out x (List.mem_of_getElem? hxK)
   have hC0:cntB (xs.take K)≤K:=Nat.le_trans (cntB_len _) (by rw[List.length_take];omega)
   obtain⟨C,hCC⟩:∃C,C=cntB (xs.take K):=⟨_,rfl⟩
   rw[←hCC]at hC0⊢
   have HCC:=Lib.hid hCC
   have HXK:=Lib.hid hxK
   have hBz:=hB.size
   have hvl:=HV.out.lt
   clear hxK hCC
   rcases hxx with ⟨n,rfl,hpl⟩|⟨q,rfl⟩
   ·have HPL:=Lib.hid (show plainV (errV n)=true from hpl)
    go_upto_region 5 with (first|refine wpList_load34at rfl rfl rfl rfl hcell ?_|refine wpList_alloc34 rfl rfl ?_|(refine wpList_store34 rfl rfl rfl rfl (World.vb_new' _ _ _ rfl) (by rfl) (pcs_one _) ?_;intro w1 hn1 hg1 hz1))
    have hb1:Below wr.heap.size wr w1:=((Below.refl _ wr).alloc (Nat.le_refl _) (.cells vz 39)).grown hg1 (by simp) (fun k hk=>by cases hk;exact Nat.le_refl _)
    have c0:w1.cell? ⟨wr.heap.size,0,none⟩=some (.int .i64 4):=hn1.cell rfl
    have HV1:=Lib.hid (HV.out.below hb1 hvl)
    have hB1:=hB.trans (hb1.mono hBz)
    clear hg1 hz1 hcell
    go_wp2_with (first|refine wpList_load34 rfl rfl rfl hn1 (by rfl) ?_|refine wpList_bslF rfl rfl rfl ?_)
    obtain⟨W5,hW5⟩:∃W,W=w1.alloc (.cells (pcs (errV n)) 39):=⟨_,rfl⟩
    rw[←hW5]
    have hb5:Below w1.heap.size w1 W5:=by rw[hW5];exact(Below.refl _ _).alloc (Nat.le_refl _) _
    have hn5:World.vb W5 w1.heap.size (pcs (errV n)):=by rw[hW5];exact World.vb_new _ _
    clear hW5
    refine(flat_any [(errV n)] _ W5 (args_one (at_plain HPL.out) hn5) (by simp)).mono ?_
    rintro e W6 ⟨v6,rfl,hr6,hb6⟩
    have hb7:=hb5.trans (hb6.mono hb5.size)
    have HV6:=Lib.hid (HV1.out.below hb7 HV1.out.lt)
    have hB6:=hB1.trans (hb7.mono hB1.size)
    have hr6:World.vr W6 W5.heap.size v6 [(errV n)]:=hr6
    obtain⟨g6,cap6,rfl⟩:=vr_pos hr6 (by simp)
    have HR6:=Lib.hid hr6
    have hb6l:w.heap.size<W5.heap.size:=by have:=HV1.out.lt;have:=hb5.size;omega
    obtain⟨b6,hb6'⟩:∃b,b=W5.heap.size:=⟨_,rfl⟩
    rw[←hb6']at HR6 hb6l
    clear hb5 hn5 hb6 hb7 hr6 hb6' hn1 hb1 c0 HV1 hB1 HV hB hBz hvl
    go_wp2_with fail
    go_loopw [4,5,26] (fun s y j wr=>(j= .int .i64 0∧s= .int .i64 (K:Int)∧y= .int .i64 (C:Int))∧Hid (World.vb wr w.heap.size vz)∧Hid (World.vr wr b6 (.slice (some ⟨g6,0,none⟩) 1 cap6) [(errV n)])∧Below w.heap.size w wr) (fun _ _ j _=>1-(intOf j).toNat)
    case atStart=>exact⟨⟨rfl,rfl,rfl⟩,HV6,HR6,hB6⟩
    case round=>
     clear HV6 HR6 hB6
     obtain⟨⟨rfl,rfl,rfl⟩,HVI,HRI,hBI⟩:=hrel
     have hcell:=vr_0 HRI.out
     have hvl:=HVI.out.lt
     have hBz:=hBI.size
     go_upto_region 10 with (first|refine wpList_load34at rfl rfl rfl rfl hcell ?_|refine wpList_alloc34 rfl rfl ?_|(refine wpList_store34 rfl rfl rfl rfl (World.vb_new' _ _ _ rfl) (by rfl) (pcs_one _) ?_;intro w1 hn1 hg1 hz1))
     have hb1:Below wr.heap.size wr w1:=((Below.refl _ wr).alloc (Nat.le_refl _) (.cells vz 39)).grown hg1 (by simp) (fun k hk=>by cases hk;exact Nat.le_refl _)
     have HV1:=Lib.hid (HVI.out.below hb1 hvl)
     have HR1:=Lib.hid (World.vr.below HRI.out hb1)
     have hB1:=hBI.trans (hb1.mono hBz)
     have HCT:=Lib.hid (show Calls Tryz.prog 222 #[.agg (pcs (errV n))] w1 (Gives (.agg (pcs (errV n))) w1)from totru_one (errV n) w1 HPL.out (HEN.out w1 hB1).1)
     have hB1z:=hB1.size
     clear hg1 hz1 hcell hb1 HVI HRI hBI hBz hvl
     go_upto_region 11 with (first|refine wpList_load34 rfl rfl rfl hn1 (by rfl) ?_|(go_at_call 222;refine HCT.out.mono ?_;rintro e w2 ⟨rfl,hB2⟩;have hn1:=hn1.below hB2 hn1.lt)|refine wpList_alloc34 rfl rfl ?_|(refine wpList_store34 rfl rfl rfl rfl (World.vb_new' _ _ _ rfl) (by rfl) (pcs_one _) ?_;intro w3 hn3 hg3 hz3))
     have hb3:Below w2.heap.size w2 w3:=((Below.refl _ w2).alloc (Nat.le_refl _) (.cells vz 39)).grown hg3 (by simp) (fun k hk=>by cases hk;exact Nat.le_refl _)
     have hb4:=hB2.trans (hb3.mono hB2.size)
     have HV3:=Lib.hid (HV1.out.below hb4 HV1.out.lt)
     have HR3:=Lib.hid (World.vr.below HR1.out hb4)
     have hB3:=hB1.trans (hb4.mono hB1z)
     have hn1:=hn1.below hb3 hn1.lt
     have hvl:=HV3.out.lt
     clear hg3 hz3 hb3 hb4 HV1 HR1 hB1 hB2 HCT hB1z
     have hvy:=HV3.out
     have hB:=hB3
     go_wp2_with (first|refine wpList_load34 rfl rfl rfl hn1 (by rfl) ?_|(go_at_call 144;refine(isfault_err n _).mono ?_;rintro e w4 ⟨rfl,hB4⟩;have hn3:=hn3.below hB4 hn3.lt;have hvy:=hvy.below hB4 hvy.lt;have hB:=hB.trans (hB4.mono hB.size))|refine wpList_load34 rfl rfl rfl hn3 (by rfl) ?_|(refine wpList_store34 rfl rfl rfl rfl hvy (by rfl) (pcs_one _) ?_;intro w9 hn9 hg9 hz9))
     have e1:logV bf xs=errV n:=by
      unfold logV
      have h1:xs.find? isF=some (errV n):=by
       rw[←List.take_append_drop (K+1) xs,HTK.out,List.find?_append,List.find?_append,HF.out];rfl
      rw[h1]
     refine bodyPost_ret (results_cell_row rfl _ _ _ 39 _ (0,0) _ rfl hn9 Tryz.underlying39 rfl info34) rfl ?_
     exact⟨by rw[e1],hB.grown hg9 hB.size (fun k9 hk9=>by cases hk9;omega)⟩
   ·have HPL:=Lib.hid (show plainV (trV q)=true from rfl)
    go_upto_region 5 with (first|refine wpList_load34at rfl rfl rfl rfl hcell ?_|refine wpList_alloc34 rfl rfl ?_|(refine wpList_store34 rfl rfl rfl rfl (World.vb_new' _ _ _ rfl) (by rfl) (pcs_one _) ?_;intro w1 hn1 hg1 hz1))
    have hb1:Below wr.heap.size wr w1:=((Below.refl _ wr).alloc (Nat.le_refl _) (.cells vz 39)).grown hg1 (by simp) (fun k hk=>by cases hk;exact Nat.le_refl _)
    have c0:w1.cell? ⟨wr.heap.size,0,none⟩=some (.int .i64 3):=hn1.cell rfl
    have HV1:=Lib.hid (HV.out.below hb1 hvl)
    have hB1:=hB.trans (hb1.mono hBz)
    clear hg1 hz1 hcell
    go_wp2_with (first|refine wpList_load34 rfl rfl rfl hn1 (by rfl) ?_|refine wpList_bslF rfl rfl rfl ?_)
    obtain⟨W5,hW5⟩:∃W,W=w1.alloc (.cells (pcs (trV q)) 39):=⟨_,rfl⟩
    rw[←hW5]
    have hb5:Below w1.heap.size w1 W5:=by rw[hW5];exact(Below.refl _ _).alloc (Nat.le_refl _) _
    have hn5:World.vb W5 w1.heap.size (pcs (trV q)):=by rw[hW5];exact World.vb_new _ _
    clear hW5
    refine(flat_any [(trV q)] _ W5 (args_one (at_plain HPL.out) hn5) (by simp)).mono ?_
    rintro e W6 ⟨v6,rfl,hr6,hb6⟩
    have hb7:=hb5.trans (hb6.mono hb5.size)
    have HV6:=Lib.hid (HV1.out.below hb7 HV1.out.lt)
    have hB6:=hB1.trans (hb7.mono hB1.size)
    have hr6:World.vr W6 W5.heap.size v6 [(trV q)]:=hr6
    obtain⟨g6,cap6,rfl⟩:=vr_pos hr6 (by simp)
    have HR6:=Lib.hid hr6
    have hb6l:w.heap.size<W5.heap.size:=by have:=HV1.out.lt;have:=hb5.size;omega
    obtain⟨b6,hb6'⟩:∃b,b=W5.heap.size:=⟨_,rfl⟩
    rw[←hb6']at HR6 hb6l
    clear hb5 hn5 hb6 hb7 hr6 hb6' hn1 hb1 c0 HV1 hB1 HV hB hBz hvl
    go_wp2_with fail
    go_loopw [4,5,26] (fun s y j wr=>((j= .int .i64 0∧s= .int .i64 (K:Int)∧y= .int .i64 (C:Int))∨(j= .int .i64 1∧s= .int .i64 (K+1:Nat)∧y= .int .i64 (cntB (xs.take (K+1)):Int)))∧Hid (World.vb wr w.heap.size vz)∧Hid (World.vr wr b6 (.slice (some ⟨g6,0,none⟩) 1 cap6) [(trV q)])∧Below w.heap.size w wr) (fun _ _ j _=>1-(intOf j).toNat)
    case atStart=>exact⟨.inl ⟨rfl,rfl,rfl⟩,HV6,HR6,hB6⟩
    case round=>
     clear HV6 HR6 hB6
     obtain⟨hj,HVI,HRI,hBI⟩:=hrel
     rcases hj with ⟨rfl,rfl,rfl⟩|⟨rfl,rfl,rfl⟩
     ·cases q
      ·have hcell:=vr_0 HRI.out
       have hvl:=HVI.out.lt
       have hBz:=hBI.size
       go_upto_region 10 with (first|refine wpList_load34at rfl rfl rfl rfl hcell ?_|refine wpList_alloc34 rfl rfl ?_|(refine wpList_store34 rfl rfl rfl rfl (World.vb_new' _ _ _ rfl) (by rfl) (pcs_one _) ?_;intro w1 hn1 hg1 hz1))
       have hb1:Below wr.heap.size wr w1:=((Below.refl _ wr).alloc (Nat.le_refl _) (.cells vz 39)).grown hg1 (by simp) (fun k hk=>by cases hk;exact Nat.le_refl _)
       have HV1:=Lib.hid (HVI.out.below hb1 hvl)
       have HR1:=Lib.hid (World.vr.below HRI.out hb1)
       have hB1:=hBI.trans (hb1.mono hBz)
       have HCT:=Lib.hid (show Calls Tryz.prog 222 #[.agg (pcs (trV false))] w1 (Gives (.agg (pcs (trV false))) w1)from totru_one (trV false) w1 HPL.out (HEN.out w1 hB1).1)
       have hB1z:=hB1.size
       clear hg1 hz1 hcell hb1 HVI HRI hBI hBz hvl
       go_upto_region 11 with (first|refine wpList_load34 rfl rfl rfl hn1 (by rfl) ?_|(go_at_call 222;refine HCT.out.mono ?_;rintro e w2 ⟨rfl,hB2⟩;have hn1:=hn1.below hB2 hn1.lt)|refine wpList_alloc34 rfl rfl ?_|(refine wpList_store34 rfl rfl rfl rfl (World.vb_new' _ _ _ rfl) (by rfl) (pcs_one _) ?_;intro w3 hn3 hg3 hz3))
       have hb3:Below w2.heap.size w2 w3:=((Below.refl _ w2).alloc (Nat.le_refl _) (.cells vz 39)).grown hg3 (by simp) (fun k hk=>by cases hk;exact Nat.le_refl _)
       have hb4:=hB2.trans (hb3.mono hB2.size)
       have HV3:=Lib.hid (HV1.out.below hb4 HV1.out.lt)
       have HR3:=Lib.hid (World.vr.below HR1.out hb4)
       have hB3:=hB1.trans (hb4.mono hB1z)
       have hn1:=hn1.below hb3 hn1.lt
       have hvl:=HV3.out.lt
       clear hg3 hz3 hb3 hb4 HV1 HR1 hB1 hB2 HCT hB1z
       have c3:w3.cell? ⟨w2.heap.size,4,none⟩=some (.bool false):=hn3.cell rfl
       have c0:w3.cell? ⟨wr.heap.size,0,none⟩=some (.int .i64 3):=hn1.cell rfl
       have hcn:cntB (xs.take (K+1))=C:=by rw[HTK.out,HCC.out];simp[cntB,trV]
       have hvy:=HV3.out
       have hB:=hB3
       go_upto_region 13 with (first|refine wpList_load34 rfl rfl rfl hn1 (by rfl) ?_|(go_at_call 144;refine(isfault_any (trV false) _ _ rfl (pcs_one _)).mono ?_;rintro e w4 ⟨rfl,hB4⟩;have c0:w4.cell? ⟨wr.heap.size,0,none⟩=some (.int .i64 3):=(hn1.below hB4 hn1.lt).cell rfl;have c3:w4.cell? ⟨w2.heap.size,4,none⟩=some (.bool false):=(hn3.below hB4 hn3.lt).cell rfl;have HV4:=Lib.hid (HV3.out.below hB4 HV3.out.lt);have HR4:=Lib.hid (World.vr.below HR3.out hB4);have hB:=hB.trans (hB4.mono hB.size)))
       clear HV3 HR3 hB3 hvy hn1 hn3 hB4
       go_wp2_with fail
       go_roundw
       case rel=>exact⟨.inr ⟨by go_num,by go_num,by rw[hcn]<;>go_num⟩,HV4,HR4,hB⟩
       case measure=>simp[intOf]
      ·have hcell:=vr_0 HRI.out
       have hvl:=HVI.out.lt
       have hBz:=hBI.size
       go_upto_region 10 with (first|refine wpList_load34at rfl rfl rfl rfl hcell ?_|refine wpList_alloc34 rfl rfl ?_|(refine wpList_store34 rfl rfl rfl rfl (World.vb_new' _ _ _ rfl) (by rfl) (pcs_one _) ?_;intro w1 hn1 hg1 hz1))
       have hb1:Below wr.heap.size wr w1:=((Below.refl _ wr).alloc (Nat.le_refl _) (.cells vz 39)).grown hg1 (by simp) (fun k hk=>by cases hk;exact Nat.le_refl _)
       have HV1:=Lib.hid (HVI.out.below hb1 hvl)
       have HR1:=Lib.hid (World.vr.below HRI.out hb1)
       have hB1:=hBI.trans (hb1.mono hBz)
       have HCT:=Lib.hid (show Calls Tryz.prog 222 #[.agg (pcs (trV true))] w1 (Gives (.agg (pcs (trV true))) w1)from totru_one (trV true) w1 HPL.out (HEN.out w1 hB1).1)
       have hB1z:=hB1.size
       clear hg1 hz1 hcell hb1 HVI HRI hBI hBz hvl
       go_upto_region 11 with (first|refine wpList_load34 rfl rfl rfl hn1 (by rfl) ?_|(go_at_call 222;refine HCT.out.mono ?_;rintro e w2 ⟨rfl,hB2⟩;have hn1:=hn1.below hB2 hn1.lt)|refine wpList_alloc34 rfl rfl ?_|(refine wpList_store34 rfl rfl rfl rfl (World.vb_new' _ _ _ rfl) (by rfl) (pcs_one _) ?_;intro w3 hn3 hg3 hz3))
       have hb3:Below w2.heap.size w2 w3:=((Below.refl _ w2).alloc (Nat.le_refl _) (.cells vz 39)).grown hg3 (by simp) (fun k hk=>by cases hk;exact Nat.le_refl _)
       have hb4:=hB2.trans (hb3.mono hB2.size)
       have HV3:=Lib.hid (HV1.out.below hb4 HV1.out.lt)
       have HR3:=Lib.hid (World.vr.below HR1.out hb4)
       have hB3:=hB1.trans (hb4.mono hB1z)
       have hn1:=hn1.below hb3 hn1.lt
       have hvl:=HV3.out.lt
       clear hg3 hz3 hb3 hb4 HV1 HR1 hB1 hB2 HCT hB1z
       have c3:w3.cell? ⟨w2.heap.size,4,none⟩=some (.bool true):=hn3.cell rfl
       have c0:w3.cell? ⟨wr.heap.size,0,none⟩=some (.int .i64 3):=hn1.cell rfl
       have hcn:cntB (xs.take (K+1))=C+1:=by rw[HTK.out,HCC.out];simp[cntB,trV]
       have hvy:=HV3.out
       have hB:=hB3
       go_upto_region 13 with (first|refine wpList_load34 rfl rfl rfl hn1 (by rfl) ?_|(go_at_call 144;refine(isfault_any (trV true) _ _ rfl (pcs_one _)).mono ?_;rintro e w4 ⟨rfl,hB4⟩;have c0:w4.cell? ⟨wr.heap.size,0,none⟩=some (.int .i64 3):=(hn1.below hB4 hn1.lt).cell rfl;have c3:w4.cell? ⟨w2.heap.size,4,none⟩=some (.bool true):=(hn3.below hB4 hn3.lt).cell rfl;have HV4:=Lib.hid (HV3.out.below hB4 HV3.out.lt);have HR4:=Lib.hid (World.vr.below HR3.out hB4);have hB:=hB.trans (hB4.mono hB.size)))
       clear HV3 HR3 hB3 hvy hn1 hn3 hB4
       go_wp2_with fail
       go_roundw
       case rel=>exact⟨.inr ⟨by go_num,by go_num,by rw[hcn]<;>go_num⟩,HV4,HR4,hB⟩
       case measure=>simp[intOf]
     ·go_wp2_with fail
      go_roundw
      case rel=>exact⟨K+1,by go_num,rfl,rfl,by omega,by rw[HTK.out,List.find?_append,HF.out];rfl,HVI,hBI⟩
      case measure=>simp[intOf];omega
  ·obtain rfl:K=xs.length:=by omega
   have hKI:¬((xs.length:Int)<(xs.length:Int)):=by omega
   have hpos:0<xs.length:=List.length_pos_iff.2 HNE.out
   have hk0:¬((xs.length:Int)=0):=by omega
   rw[List.take_length]at HF⊢
   have e1:logV bf xs=trV (bf xs.length (cntB xs)):=by unfold logV;rw[HF.out]
   have HE:=Lib.hid e1
   have HCA:=Lib.hid (fun W=>HG.out xs.length (cntB xs) W hn (cntB_len xs))
   have hvy:=HV.out
   have hc:=(HBX.out wr hB).cell (j:=0) rfl
   have hvl:=hvy.lt
   obtain⟨C,hCC⟩:∃C,C=cntB xs:=⟨_,rfl⟩
   obtain⟨bb,hbb⟩:∃r,r=bf xs.length (cntB xs):=⟨_,rfl⟩
   rw[←hbb]at HE HCA
   rw[←hCC]at HCA⊢
   clear hCC hbb HV HF HEL HBX HEN HG HX HNE e1 hpos hK hlt
   go_wp2_with (first|(go_at_fn gd;refine(HCA.out _).mono ?_;rintro e w4 ⟨rfl,hB4⟩;have hvy:=hvy.below hB4 hvy.lt;have hB:=hB.trans (hB4.mono hB.size))|(go_at_call 137;refine(truthF_any bb _).mono ?_;rintro e w5 ⟨rfl,hB5⟩;have hvy:=hvy.below hB5 hvy.lt;have hB:=hB.trans (hB5.mono hB.size))|(refine wpList_store34 rfl rfl rfl rfl hvy (by rfl) (pcs_one _) ?_;intro w9 hn9 hg9 hz9))
   refine bodyPost_ret (results_cell_row rfl _ _ _ 39 _ (0,0) _ rfl hn9 Tryz.underlying39 rfl info34) rfl ?_
   exact⟨by rw[HE.out],hB.grown hg9 hB.size (fun k9 hk9=>by cases hk9;omega)⟩
end Go.Proofs.YtmhfioimgllgeaaGreatDoor
namespace Go.Proofs.YtmhfioimgllgeaaGreatDoor
open Go Go.RowKit Go.Shelf
set_option maxRecDepth 100000 in
set_option maxHeartbeats 8000000 in
theorem join_bad (k:Int) (hpl:plainV (errV k)=true) (L:Value) (w:World) (hA:ArgsAt w L [errV k]) (hV:Env w):Calls Tryz.prog 192 #[.string ⟨#[]⟩,.bool false,L] w (Gives (.agg (pcs (errV k))) w):=by
 have HPL:=Lib.hid hpl
 have HEN:=Lib.hid (show ∀W,Below w.heap.size w W→Env W from fun W hW=>hV.below hW)
 have hvy0:World.vb (w.alloc (.cells vz 39)) w.heap.size vz:=World.vb_new w vz
 have hB0:Below w.heap.size w (w.alloc (.cells vz 39)):=(Below.refl _ w).alloc (Nat.le_refl _) _
 have HFL:=Lib.hid (flat_any [errV k] L _ (hA.below hB0) (by simp))
 obtain⟨p,c,rfl,_⟩:=id hA.1
 clear hA hV hpl
 go_enter Tryz.func192,Tryz.ntmps192
 go_wp2_with (refine wpList_alloc34 rfl rfl ?_)
 refine HFL.out.mono ?_
 rintro e W6 ⟨v6,rfl,hr6,hb6⟩
 have HV6:=Lib.hid (hvy0.below hb6 hvy0.lt)
 have hB6:=hB0.trans (hb6.mono hB0.size)
 have hr6:World.vr W6 (w.alloc (.cells vz 39)).heap.size v6 [errV k]:=hr6
 obtain⟨g6,cap6,rfl⟩:=vr_pos hr6 (by simp)
 have HR6:=Lib.hid (hr6.mono (Nat.zero_le _))
 clear hr6 hb6 hB0 hvy0 HFL
 go_wp2_with fail
 go_loopw [15] (fun i wr=>i= .int .i64 0∧Hid (World.vb wr w.heap.size vz)∧Hid (World.vr wr 0 (.slice (some ⟨g6,0,none⟩) 1 cap6) [errV k])∧Below w.heap.size w wr) (fun i _=>1-(intOf i).toNat)
 case atStart=>exact⟨rfl,HV6,HR6,hB6⟩
 case round=>
  clear HV6 HR6 hB6
  obtain⟨rfl,HVI,HRI,hBI⟩:=hrel
  have hcell:=vr_0 HRI.out
  have hvl:=HVI.out.lt
  have hBz:=hBI.size
  go_upto_region 6 with (first|refine wpList_load34at rfl rfl rfl rfl hcell ?_|refine wpList_alloc34 rfl rfl ?_|(refine wpList_store34 rfl rfl rfl rfl (World.vb_new' _ _ _ rfl) (by rfl) (pcs_one _) ?_;intro w1 hn1 hg1 hz1))
  have hb1:Below wr.heap.size wr w1:=((Below.refl _ wr).alloc (Nat.le_refl _) (.cells vz 39)).grown hg1 (by simp) (fun k hk=>by cases hk;exact Nat.le_refl _)
  have HV1:=Lib.hid (HVI.out.below hb1 hvl)
  have hB1:=hBI.trans (hb1.mono hBz)
  have HCT:=Lib.hid (show Calls Tryz.prog 221 #[.agg (pcs (errV k))] w1 (Gives (.agg (pcs (errV k))) w1)from totxt_one (errV k) w1 HPL.out (HEN.out w1 hB1).1)
  have hB1z:=hB1.size
  clear hg1 hz1 hcell hb1 HVI HRI hBI hBz hvl
  go_upto_region 7 with (first|refine wpList_load34 rfl rfl rfl hn1 (by rfl) ?_|(go_at_call 221;refine HCT.out.mono ?_;rintro e w2 ⟨rfl,hB2⟩)|refine wpList_alloc34 rfl rfl ?_|(refine wpList_store34 rfl rfl rfl rfl (World.vb_new' _ _ _ rfl) (by rfl) (pcs_one _) ?_;intro w3 hn3 hg3 hz3))
  have hb3:Below w2.heap.size w2 w3:=((Below.refl _ w2).alloc (Nat.le_refl _) (.cells vz 39)).grown hg3 (by simp) (fun k hk=>by cases hk;exact Nat.le_refl _)
  have hb4:=hB2.trans (hb3.mono hB2.size)
  have hvy:=HV1.out.below hb4 HV1.out.lt
  have hB:=hB1.trans (hb4.mono hB1z)
  clear hg3 hz3 hb3 hb4 HV1 hB1 hB2 HCT hB1z
  go_wp2_with (first|refine wpList_load34 rfl rfl rfl hn3 (by rfl) ?_|(go_at_call 144;refine(isfault_err k _).mono ?_;rintro e w4 ⟨rfl,hB4⟩;have hn3:=hn3.below hB4 hn3.lt;have hvy:=hvy.below hB4 hvy.lt;have hB:=hB.trans (hB4.mono hB.size))|(refine wpList_store34 rfl rfl rfl rfl hvy (by rfl) (pcs_one _) ?_;intro w9 hn9 hg9 hz9))
  refine bodyPost_ret (results_cell_row rfl _ _ _ 39 _ (0,0) _ rfl hn9 Tryz.underlying39 rfl info34) rfl ?_
  exact⟨rfl,hB.grown hg9 hB.size (fun k9 hk9=>by cases hk9;omega)⟩
set_option maxRecDepth 100000 in
set_option maxHeartbeats 8000000 in
theorem concat_bad (k:Int) (hpl:plainV (errV k)=true) (L:Value) (w:World) (hA:ArgsAt w L [errV k]) (hV:Env w):Calls Tryz.prog 191 #[L] w (Gives (.agg (pcs (errV k))) w):=by
 have hv0:World.vb (w.alloc (.cells vz 39)) w.heap.size vz:=World.vb_new w vz
 have hB0:Below w.heap.size w (w.alloc (.cells vz 39)):=(Below.refl _ w).alloc (Nat.le_refl _) _
 have HJ:=Lib.hid (join_bad k hpl L _ (hA.below hB0) (hV.below hB0))
 clear hA hV
 go_enter Tryz.func191,Tryz.ntmps191
 go_wp2_with (first|refine wpList_alloc34 rfl rfl ?_|(go_at_call 192;refine HJ.out.mono ?_;rintro e w1 ⟨rfl,hB1⟩;have hvy:=hv0.below hB1 hv0.lt;have hB:=hB0.trans (hB1.mono hB0.size))|(refine wpList_store34 rfl rfl rfl rfl hvy (by rfl) (pcs_one _) ?_;intro w9 hn9 hg9 hz9))
 refine bodyPost_ret (results_cell_row rfl _ _ _ 39 _ (0,0) _ rfl hn9 Tryz.underlying39 rfl info34) rfl ?_
 exact⟨rfl,hB.grown hg9 hB.size (fun k9 hk9=>by cases hk9;omega)⟩
end Go.Proofs.YtmhfioimgllgeaaGreatDoor
namespace Go.Proofs.YtmhfioimgllgeaaGreatDoor
open Go Go.RowKit Go.Shelf
theorem badL_err {h:UInt8} (hl:h=110∨h=116∨h=98) (k:Int):badL h (errV k)=true∧convL h (errV k)=errV k:=by
 rcases hl with rfl|rfl|rfl<;>exact⟨rfl,rfl⟩
/-- A function of letters whose first value is an error. -/
theorem call_l (s:ByteArray) (hs:s.size≤1000) (e:Ent) (he:look (tabAll 0 0) (upL s.data.toList)=some e) (h:UInt8) (t:List UInt8) (hh:e.how=h :: t) (hl:h=110∨h=116∨h=98) (hasc:∀c∈e.how,c=110∨c=116∨c=98∨c=118) (d:Ds) (hd:e.one=some d)
 (henter:∀W gf ps,d.At W (fnV gf ps)→∀args w,(callFunc gf args).run Tryz.prog w= .ok (.enter gf args) w)
 (k:Int) (r:List Vl) (n:Nat) (hn:n=(errV k :: r).length) (hx:∀x∈errV k :: r,plainV x=true) (hlen:(errV k :: r).length≤e.how.length) (hln:n≤1000) (hl0:e.least≤(n:Int)) (hl1:(n:Int)≤e.most) (g c:Nat) (hc:n≤c) (hm:c≤maxLen) (w:World) (hEl:Els (errV k :: r) g 0 w) (hE:Env w):
 Calls Tryz.prog 18 #[.string s,.slice (some ⟨g,0,none⟩) n c,.agg #[.int .i64 0,.int .i64 0]] w (Gives (.agg (pcs (errV k))) w):=by
 subst hn
 have hb0:badL (e.how.getD 0 0) (errV k)=true:=by rw[hh];exact(badL_err hl k).1
 refine call_one s hs 0 0 e he (by rw[hh];simp) hasc d hd (errV k :: r) hx (by simp) hln hlen g 0 c hc hm w hEl hE hl0 hl1 _ ?_ henter ?_
 ·intro hb
  have:=hb 0 (errV k) rfl
  rw[hb0]at this
  cases this
 ·intro i x hx hb hf
  match i,hx,hb,hf with
  |0,hx,_,_=>
   injection hx with hx
   subst hx
   rw[hh]
   exact((badL_err hl k).2).symm
  |i+1,_,_,hf=>
   have:=hf 0 (errV k) (Nat.zero_lt_succ _) rfl
   rw[hb0]at this
   cases this
def andB (a b:Nat):Bool:=decide (b=a)
def xorB (_ b:Nat):Bool:=decide (b%2=1)
theorem and181 (a b:Nat) (W:World) (_ha:a≤25) (_hb:b≤a):Calls Tryz.prog 181 #[.int .i64 (a:Int),.int .i64 (b:Int)] W (Gives (.bool (andB a b)) W):=by
 have e:andB a b=decide ((b:Int)=(a:Int)):=by unfold andB;simp[Int.ofNat_inj]
 rw[e]
 go_enter Tryz.func181,Tryz.ntmps181
 go_wp2_with fail
 go_ret
 exact⟨by first|rfl|(simp;rfl)|(rw[Bool.eq_iff_iff];simp),Below.refl _ _⟩
theorem xor183 (a b:Nat) (W:World) (_ha:a≤25) (_hb:b≤a):Calls Tryz.prog 183 #[.int .i64 (a:Int),.int .i64 (b:Int)] W (Gives (.bool (xorB a b)) W):=by
 have e:xorB a b=decide ((b:Int).tmod 2=1):=by
  unfold xorB
  have h:(b:Int).tmod 2=((b%2:Nat):Int):=by rw[Int.tmod_eq_emod_of_nonneg (by omega)];omega
  rw[h]
  exact decide_eq_decide.2 (by omega)
 rw[e]
 go_enter Tryz.func183,Tryz.ntmps183
 go_wp2_with fail
 go_ret
 exact⟨by first|rfl|(simp[Int.tmod_eq_emod_of_nonneg (Int.natCast_nonneg b)];done)|(congr 2;rw[Bool.eq_iff_iff];simp[Int.tmod_eq_emod_of_nonneg (Int.natCast_nonneg b)]),Below.refl _ _⟩
theorem eg181 :∀args w,(callFunc 181 args).run Tryz.prog w= .ok (.enter 181 args) w:=enters_of Tryz.func181 (by kernel_rfl) rfl
theorem and_bad (k:Int) (hpl:plainV (errV k)=true) (g c:Nat) (u:Value) (w:World) (hE:Els [errV k] g 0 w) (hV:Env w) (hb:Bx w u (.func (.func 181) #[] #[])):Calls Tryz.prog 261 #[.slice (some ⟨g,0,none⟩) 1 c,u] w (Gives (.agg (pcs (errV k))) w):=
 logic_any 181 eg181 andB and181 [errV k] (fun x hx=> .inl ⟨k,by rw[List.mem_singleton.1 hx],by rw[List.mem_singleton.1 hx];exact hpl⟩) (by simp) (by simp) g c u w hE hV hb
theorem eg183 :∀args w,(callFunc 183 args).run Tryz.prog w= .ok (.enter 183 args) w:=enters_of Tryz.func183 (by kernel_rfl) rfl
theorem xor_bad (k:Int) (hpl:plainV (errV k)=true) (g c:Nat) (u:Value) (w:World) (hE:Els [errV k] g 0 w) (hV:Env w) (hb:Bx w u (.func (.func 183) #[] #[])):Calls Tryz.prog 261 #[.slice (some ⟨g,0,none⟩) 1 c,u] w (Gives (.agg (pcs (errV k))) w):=
 logic_any 183 eg183 xorB xor183 [errV k] (fun x hx=> .inl ⟨k,by rw[List.mem_singleton.1 hx],by rw[List.mem_singleton.1 hx];exact hpl⟩) (by simp) (by simp) g c u w hE hV hb
theorem eg141 :∀args w,(callFunc 141 args).run Tryz.prog w= .ok (.enter 141 args) w:=enters_of Tryz.func141 (by kernel_rfl) rfl
theorem eg142 :∀args w,(callFunc 142 args).run Tryz.prog w= .ok (.enter 142 args) w:=enters_of Tryz.func142 (by kernel_rfl) rfl
theorem eg143 :∀args w,(callFunc 143 args).run Tryz.prog w= .ok (.enter 143 args) w:=enters_of Tryz.func143 (by kernel_rfl) rfl
theorem eg145 :∀args w,(callFunc 145 args).run Tryz.prog w= .ok (.enter 145 args) w:=enters_of Tryz.func145 (by kernel_rfl) rfl
theorem eg191 :∀args w,(callFunc 191 args).run Tryz.prog w= .ok (.enter 191 args) w:=enters_of Tryz.func191 (by kernel_rfl) rfl
theorem eg242 :∀args w,(callFunc 242 args).run Tryz.prog w= .ok (.enter 242 args) w:=enters_of Tryz.func242 (by kernel_rfl) rfl
theorem eg261 :∀args w,(callFunc 261 args).run Tryz.prog w= .ok (.enter 261 args) w:=enters_of Tryz.func261 (by kernel_rfl) rfl
theorem eg262 :∀args w,(callFunc 262 args).run Tryz.prog w= .ok (.enter 262 args) w:=enters_of Tryz.func262 (by kernel_rfl) rfl
def NF :List (List UInt8):= [[65,66,83],[73,78,84],[76,69,78],[85,80,80,69,82],[78,79,84],[83,85,77],[77,65,88],[77,69,68,73,65,78],[65,78,68],[88,79,82],[67,79,78,67,65,84],[82,79,87,83],[86,65,76,85,69],[67,79,68,69],[83,79,82,84],[73,83,79,68,68]]
theorem f_inv {w:World} {g gf:Nat} {ps:Array Value} (h:(Ds.f g).At w (fnV gf ps)):gf=g∧ps= #[]:=by
 have h:fnV gf ps= .func (.func g) #[] #[]:=h
 injection h with h1 _ h3
 injection h1 with h1
 exact⟨h1,h3⟩
theorem args_els {xs:List Vl} {g c n:Nat} {w:World} (hn:n=xs.length) (h:Els xs g 0 w) (hx:∀x∈xs,plainV x=true) (hl:n≤1000) (hc:n≤c) (hm:c≤maxLen) (hne:xs≠ []):ArgsAt w (.slice (some ⟨g,0,none⟩) n c) xs:=by
 subst hn
 exact⟨els_vsAt h hx hl hc hm hne 2,fun x h=> .inl (hx x h)⟩
/-- A function of values as they are. -/
theorem call_a (s:ByteArray) (hs:s.size≤1000) (e:Ent) (he:look (tabAll 0 0) (upL s.data.toList)=some e) (hh:e.how= []) (d:Ds) (hd:e.all=some d) (xs:List Vl) (n:Nat) (hn:n=xs.length) (hx:∀x∈xs,plainV x=true) (hne:xs≠ []) (hln:n≤1000) (hl0:e.least≤(n:Int)) (hl1:(n:Int)≤e.most) (g c:Nat) (hc:n≤c) (hm:c≤maxLen) (w:World) (hEl:Els xs g 0 w) (hE:Env w) (y:Vl)
 (hall:∀W gf ps,Els xs g 0 W→ArgsAt W (.slice (some ⟨g,0,none⟩) n c) xs→Env W→d.At W (fnV gf ps)→(∀args w,(callFunc gf args).run Tryz.prog w= .ok (.enter gf args) w)∧Calls Tryz.prog gf (#[.slice (some ⟨g,0,none⟩) n c]++ps) W (Gives (.agg (pcs y)) W)):
 Calls Tryz.prog 18 #[.string s,.slice (some ⟨g,0,none⟩) n c,.agg #[.int .i64 0,.int .i64 0]] w (Gives (.agg (pcs y)) w):=
 call_all s hs 0 0 e he hh d hd xs _ w (args_els hn hEl hx hln hc hm hne) hE (by rw[←hn];exact hl0) (by rw[←hn];exact hl1) y
  fun W gf ps hW hdW=>hall W gf ps (hEl.below hW) ((args_els hn hEl hx hln hc hm hne).below hW) (hE.below hW) hdW
set_option maxRecDepth 100000 in
set_option maxHeartbeats 4000000 in
theorem call_f1 {nm:List UInt8} (hnm:nm∈NF) (k:Int) (hpl:plainV (errV k)=true) (g c:Nat) (hc:1≤c) (hm:c≤maxLen) (w:World) (hEl:Els [errV k] g 0 w) (hE:Env w):
 Calls Tryz.prog 18 #[.string (mk nm),.slice (some ⟨g,0,none⟩) 1 c,.agg #[.int .i64 0,.int .i64 0]] w (Gives (.agg (pcs (errV k))) w):=by
 have hx:∀x∈ [errV k],plainV x=true:=fun x hx=>by rw[List.mem_singleton.1 hx];exact hpl
 unfold NF at hnm
 simp only[List.mem_cons,List.not_mem_nil,or_false]at hnm
 rcases hnm with rfl|rfl|rfl|rfl|rfl|rfl|rfl|rfl|rfl|rfl|rfl|rfl|rfl|rfl|rfl|rfl
 ·refine call_l (mk [65,66,83]) (by decide) {least:=1,most:=1,how:= [110],one:=some (.c 236 (.f 118))} (by kernel_rfl) 110 [] rfl (by decide) (by decide) (.c 236 (.f 118)) rfl ?_ k [] 1 rfl hx (Nat.le_refl _) (by decide) (Int.le_refl _) (Int.le_refl _) g c hc hm w hEl hE
  intro W gf ps hd
  obtain⟨rfl,_⟩:=hd.c_inv
  exact eg236
 ·refine call_l (mk [73,78,84]) (by decide) {least:=1,most:=1,how:= [110],one:=some (.c 236 (.f 122))} (by kernel_rfl) 110 [] rfl (by decide) (by decide) (.c 236 (.f 122)) rfl ?_ k [] 1 rfl hx (Nat.le_refl _) (by decide) (Int.le_refl _) (Int.le_refl _) g c hc hm w hEl hE
  intro W gf ps hd
  obtain⟨rfl,_⟩:=hd.c_inv
  exact eg236
 ·refine call_l (mk [76,69,78]) (by decide) {least:=1,most:=1,how:= [116],one:=some (.c 243 (.f 150))} (by kernel_rfl) 116 [] rfl (by decide) (by decide) (.c 243 (.f 150)) rfl ?_ k [] 1 rfl hx (Nat.le_refl _) (by decide) (Int.le_refl _) (Int.le_refl _) g c hc hm w hEl hE
  intro W gf ps hd
  obtain⟨rfl,_⟩:=hd.c_inv
  exact eg243
 ·refine call_l (mk [85,80,80,69,82]) (by decide) {least:=1,most:=1,how:= [116],one:=some (.c 243 (.j 247 (.int .i32 97) (.int .i32 65)))} (by kernel_rfl) 116 [] rfl (by decide) (by decide) (.c 243 (.j 247 (.int .i32 97) (.int .i32 65))) rfl ?_ k [] 1 rfl hx (Nat.le_refl _) (by decide) (Int.le_refl _) (Int.le_refl _) g c hc hm w hEl hE
  intro W gf ps hd
  obtain⟨rfl,_⟩:=hd.c_inv
  exact eg243
 ·refine call_l (mk [78,79,84]) (by decide) {least:=1,most:=1,how:= [98],one:=some (.f 141)} (by kernel_rfl) 98 [] rfl (by decide) (by decide) (.f 141) rfl ?_ k [] 1 rfl hx (Nat.le_refl _) (by decide) (Int.le_refl _) (Int.le_refl _) g c hc hm w hEl hE
  intro W gf ps hd
  obtain⟨rfl,_⟩:=f_inv hd
  exact eg141
 ·refine call_a (mk [83,85,77]) (by decide) {least:=1,most:=20,all:=some (.c 253 (.f 164))} (by kernel_rfl) rfl (.c 253 (.f 164)) rfl [errV k] 1 rfl hx (by simp) (by decide) (by decide) (by decide) g c hc hm w hEl hE (errV k) ?_
  intro W gf ps hEW hAW hEn hd
  obtain⟨rfl,p,u,rfl,hb,hu⟩:=hd.c_inv
  exact⟨eg253,gathered_bad 0 (errV k) [errV k] rfl _ p W hAW (by simp) hEn⟩
 ·refine call_a (mk [77,65,88]) (by decide) {least:=1,most:=20,all:=some (.c 253 (.f 169))} (by kernel_rfl) rfl (.c 253 (.f 169)) rfl [errV k] 1 rfl hx (by simp) (by decide) (by decide) (by decide) g c hc hm w hEl hE (errV k) ?_
  intro W gf ps hEW hAW hEn hd
  obtain⟨rfl,p,u,rfl,hb,hu⟩:=hd.c_inv
  exact⟨eg253,gathered_bad 0 (errV k) [errV k] rfl _ p W hAW (by simp) hEn⟩
 ·refine call_a (mk [77,69,68,73,65,78]) (by decide) {least:=1,most:=20,all:=some (.c 253 (.f 172))} (by kernel_rfl) rfl (.c 253 (.f 172)) rfl [errV k] 1 rfl hx (by simp) (by decide) (by decide) (by decide) g c hc hm w hEl hE (errV k) ?_
  intro W gf ps hEW hAW hEn hd
  obtain⟨rfl,p,u,rfl,hb,hu⟩:=hd.c_inv
  exact⟨eg253,gathered_bad 0 (errV k) [errV k] rfl _ p W hAW (by simp) hEn⟩
 ·refine call_a (mk [65,78,68]) (by decide) {least:=1,most:=20,all:=some (.c 261 (.f 181))} (by kernel_rfl) rfl (.c 261 (.f 181)) rfl [errV k] 1 rfl hx (by simp) (by decide) (by decide) (by decide) g c hc hm w hEl hE (errV k) ?_
  intro W gf ps hEW hAW hEn hd
  obtain⟨rfl,p,u,rfl,hb,hu⟩:=hd.c_inv
  have hu:u= .func (.func 181) #[] #[]:=hu
  subst hu
  exact⟨eg261,and_bad k hpl g c p W hEW hEn hb⟩
 ·refine call_a (mk [88,79,82]) (by decide) {least:=1,most:=20,all:=some (.c 261 (.f 183))} (by kernel_rfl) rfl (.c 261 (.f 183)) rfl [errV k] 1 rfl hx (by simp) (by decide) (by decide) (by decide) g c hc hm w hEl hE (errV k) ?_
  intro W gf ps hEW hAW hEn hd
  obtain⟨rfl,p,u,rfl,hb,hu⟩:=hd.c_inv
  have hu:u= .func (.func 183) #[] #[]:=hu
  subst hu
  exact⟨eg261,xor_bad k hpl g c p W hEW hEn hb⟩
 ·refine call_a (mk [67,79,78,67,65,84]) (by decide) {least:=1,most:=20,all:=some (.f 191)} (by kernel_rfl) rfl (.f 191) rfl [errV k] 1 rfl hx (by simp) (by decide) (by decide) (by decide) g c hc hm w hEl hE (errV k) ?_
  intro W gf ps hEW hAW hEn hd
  obtain⟨rfl,rfl⟩:=f_inv hd
  exact⟨eg191,concat_bad k hpl _ W hAW hEn⟩
 ·refine call_a (mk [82,79,87,83]) (by decide) {least:=1,most:=1,all:=some (.c 262 (.f 195))} (by kernel_rfl) rfl (.c 262 (.f 195)) rfl [errV k] 1 rfl hx (by simp) (by decide) (by decide) (by decide) g c hc hm w hEl hE (errV k) ?_
  intro W gf ps hEW hAW hEn hd
  obtain⟨rfl,p,u,rfl,hb,hu⟩:=hd.c_inv
  exact⟨eg262,carry_bad1 k g c p W hEW⟩
 ·refine call_l (mk [86,65,76,85,69]) (by decide) {least:=1,most:=1,how:= [110],one:=some (.c 236 (.f 126))} (by kernel_rfl) 110 [] rfl (by decide) (by decide) (.c 236 (.f 126)) rfl ?_ k [] 1 rfl hx (Nat.le_refl _) (by decide) (Int.le_refl _) (Int.le_refl _) g c hc hm w hEl hE
  intro W gf ps hd
  obtain⟨rfl,_⟩:=hd.c_inv
  exact eg236
 ·refine call_l (mk [67,79,68,69]) (by decide) {least:=1,most:=1,how:= [116],one:=some (.c 243 (.f 162))} (by kernel_rfl) 116 [] rfl (by decide) (by decide) (.c 243 (.f 162)) rfl ?_ k [] 1 rfl hx (Nat.le_refl _) (by decide) (Int.le_refl _) (Int.le_refl _) g c hc hm w hEl hE
  intro W gf ps hd
  obtain⟨rfl,_⟩:=hd.c_inv
  exact eg243
 ·refine call_a (mk [83,79,82,84]) (by decide) {least:=1,most:=2,all:=some (.c 262 (.f 204))} (by kernel_rfl) rfl (.c 262 (.f 204)) rfl [errV k] 1 rfl hx (by simp) (by decide) (by decide) (by decide) g c hc hm w hEl hE (errV k) ?_
  intro W gf ps hEW hAW hEn hd
  obtain⟨rfl,p,u,rfl,hb,hu⟩:=hd.c_inv
  exact⟨eg262,carry_bad1 k g c p W hEW⟩
 ·refine call_l (mk [73,83,79,68,68]) (by decide) {least:=1,most:=1,how:= [110],one:=some (.c 236 (.f 139))} (by kernel_rfl) 110 [] rfl (by decide) (by decide) (.c 236 (.f 139)) rfl ?_ k [] 1 rfl hx (Nat.le_refl _) (by decide) (Int.le_refl _) (Int.le_refl _) g c hc hm w hEl hE
  intro W gf ps hd
  obtain⟨rfl,_⟩:=hd.c_inv
  exact eg236
set_option maxRecDepth 100000 in
set_option maxHeartbeats 4000000 in
theorem call_iferr (k:Int) (v:Vl) (hx:∀x∈ [errV k,v],plainV x=true) (g c:Nat) (hc:2≤c) (hm:c≤maxLen) (w:World) (hEl:Els [errV k,v] g 0 w) (hE:Env w):
 Calls Tryz.prog 18 #[.string (mk [73,70,69,82,82,79,82]),.slice (some ⟨g,0,none⟩) 2 c,.agg #[.int .i64 0,.int .i64 0]] w (Gives (.agg (pcs v)) w):=by
 refine call_one (mk [73,70,69,82,82,79,82]) (by decide) 0 0 {least:=2,most:=2,how:= [118,118],one:=some (.f 143)} (by kernel_rfl) (by decide) (by decide) (.f 143) rfl [errV k,v] hx (by simp) (by simp) (Nat.le_refl _) g 0 c hc hm w hEl hE (Int.le_refl _) (Int.le_refl _) v ?_ ?_ ?_
 ·intro _ W gf ps hW hd base g' cap hr hg
  obtain⟨rfl,rfl⟩:=f_inv hd
  exact iferr_bad k v base g' cap W hr
 ·intro W gf ps hd
  obtain⟨rfl,_⟩:=f_inv hd
  exact eg143
 ·intro i x hx hb _
  exfalso
  match i,hx,hb with
  |0,_,hb=>cases hb
  |1,_,hb=>cases hb
  |i+2,hx,_=>cases hx
set_option maxRecDepth 100000 in
set_option maxHeartbeats 4000000 in
theorem call_ifna (k:Int) (v:Vl) (hx:∀x∈ [errV k,v],plainV x=true) (g c:Nat) (hc:2≤c) (hm:c≤maxLen) (w:World) (hEl:Els [errV k,v] g 0 w) (hE:Env w):
 Calls Tryz.prog 18 #[.string (mk [73,70,78,65]),.slice (some ⟨g,0,none⟩) 2 c,.agg #[.int .i64 0,.int .i64 0]] w (Gives (.agg (pcs (if k=7 then v else errV k))) w):=by
 refine call_one (mk [73,70,78,65]) (by decide) 0 0 {least:=2,most:=2,how:= [118,118],one:=some (.f 145)} (by kernel_rfl) (by decide) (by decide) (.f 145) rfl [errV k,v] hx (by simp) (by simp) (Nat.le_refl _) g 0 c hc hm w hEl hE (Int.le_refl _) (Int.le_refl _) _ ?_ ?_ ?_
 ·intro _ W gf ps hW hd base g' cap hr hg
  obtain⟨rfl,rfl⟩:=f_inv hd
  by_cases hk:k=7
  ·subst hk
   rw[if_pos rfl]
   exact ifna_bad_y v base g' cap W hr
  ·rw[if_neg hk]
   exact ifna_bad_n k v hk base g' cap W hr
 ·intro W gf ps hd
  obtain⟨rfl,_⟩:=f_inv hd
  exact eg145
 ·intro i x hx hb _
  exfalso
  match i,hx,hb with
  |0,_,hb=>cases hb
  |1,_,hb=>cases hb
  |i+2,hx,_=>cases hx
theorem Ds.At.i_inv {w:World} {g:Nat} {u v:Value} (h:(Ds.i g u).At w v):∃p,v= .func (.func g) #[] #[p]∧Bx w p u:=h
set_option maxRecDepth 100000 in
set_option maxHeartbeats 4000000 in
theorem call_iserr (k:Int) (hpl:plainV (errV k)=true) (g c:Nat) (hc:1≤c) (hm:c≤maxLen) (w:World) (hEl:Els [errV k] g 0 w) (hE:Env w):
 Calls Tryz.prog 18 #[.string (mk [73,83,69,82,82,79,82]),.slice (some ⟨g,0,none⟩) 1 c,.agg #[.int .i64 0,.int .i64 0]] w (Gives (.agg (pcs (trV true))) w):=by
 refine call_one (mk [73,83,69,82,82,79,82]) (by decide) 0 0 {least:=1,most:=1,how:= [118],one:=some (.c 242 (.i 241 (.int .i64 4)))} (by kernel_rfl) (by decide) (by decide) (.c 242 (.i 241 (.int .i64 4))) rfl [errV k] (fun x hx=>by rw[List.mem_singleton.1 hx];exact hpl) (by simp) (by simp) (Nat.le_refl _) g 0 c hc hm w hEl hE (Int.le_refl _) (Int.le_refl _) _ ?_ ?_ ?_
 ·intro _ W gf ps hW hd base g' cap hr hg
  obtain⟨rfl,p,u,rfl,hb,hu⟩:=hd.c_inv
  obtain⟨q,rfl,hq⟩:=hu.i_inv
  exact is_err k p q base g' cap W hb hq hr
 ·intro W gf ps hd
  obtain⟨rfl,_⟩:=hd.c_inv
  exact eg242
 ·intro i x hx hb _
  exfalso
  match i,hx,hb with
  |0,_,hb=>cases hb
  |i+1,hx,_=>cases hx
set_option maxRecDepth 100000 in
set_option maxHeartbeats 4000000 in
theorem call_if_bad (k:Int) (v:Vl) (hx:∀x∈ [errV k,v,v],plainV x=true) (g c:Nat) (hc:3≤c) (hm:c≤maxLen) (w:World) (hEl:Els [errV k,v,v] g 0 w) (hE:Env w):
 Calls Tryz.prog 18 #[.string (mk [73,70]),.slice (some ⟨g,0,none⟩) 3 c,.agg #[.int .i64 0,.int .i64 0]] w (Gives (.agg (pcs (errV k))) w):=by
 refine call_l (mk [73,70]) (by decide) {least:=2,most:=3,how:= [98,118,118],one:=some (.f 142)} (by kernel_rfl) 98 [118,118] rfl (by decide) (by decide) (.f 142) rfl ?_ k [v,v] 3 rfl hx (Nat.le_refl _) (by decide) (by decide) (by decide) g c hc hm w hEl hE
 intro W gf ps hd
 obtain⟨rfl,_⟩:=f_inv hd
 exact eg142
set_option maxRecDepth 100000 in
set_option maxHeartbeats 4000000 in
theorem call_round_bad (k:Int) (v:Vl) (hx:∀x∈ [errV k,v],plainV x=true) (g c:Nat) (hc:2≤c) (hm:c≤maxLen) (w:World) (hEl:Els [errV k,v] g 0 w) (hE:Env w):
 Calls Tryz.prog 18 #[.string (mk [82,79,85,78,68]),.slice (some ⟨g,0,none⟩) 2 c,.agg #[.int .i64 0,.int .i64 0]] w (Gives (.agg (pcs (errV k))) w):=by
 refine call_l (mk [82,79,85,78,68]) (by decide) {least:=1,most:=2,how:= [110,110],one:=some (.c 236 (.f 127))} (by kernel_rfl) 110 [110] rfl (by decide) (by decide) (.c 236 (.f 127)) rfl ?_ k [v] 2 rfl hx (Nat.le_refl _) (by decide) (by decide) (by decide) g c hc hm w hEl hE
 intro W gf ps hd
 obtain⟨rfl,_⟩:=hd.c_inv
 exact eg236
set_option maxRecDepth 100000 in
set_option maxHeartbeats 4000000 in
theorem call_match_bad (k:Int) (v:Vl) (hx:∀x∈ [errV k,v],plainV x=true) (g c:Nat) (hc:2≤c) (hm:c≤maxLen) (w:World) (hEl:Els [errV k,v] g 0 w) (hE:Env w):
 Calls Tryz.prog 18 #[.string (mk [77,65,84,67,72]),.slice (some ⟨g,0,none⟩) 2 c,.agg #[.int .i64 0,.int .i64 0]] w (Gives (.agg (pcs (errV k))) w):=by
 refine call_a (mk [77,65,84,67,72]) (by decide) {least:=2,most:=2,all:=some (.c 262 (.f 199))} (by kernel_rfl) rfl (.c 262 (.f 199)) rfl [errV k,v] 2 rfl hx (by simp) (by decide) (by decide) (by decide) g c hc hm w hEl hE (errV k) ?_
 intro W gf ps hEW hAW hEn hd
 obtain⟨rfl,p,u,rfl,hb,hu⟩:=hd.c_inv
 exact⟨eg262,carry_bad2 k v g c p W hEW⟩
set_option maxRecDepth 100000 in
set_option maxHeartbeats 4000000 in
theorem call_sum_bad (k:Int) (v:Vl) (hx:∀x∈ [numV (1,0),errV k,v],plainV x=true) (g c:Nat) (hc:3≤c) (hm:c≤maxLen) (w:World) (hEl:Els [numV (1,0),errV k,v] g 0 w) (hE:Env w):
 Calls Tryz.prog 18 #[.string (mk [83,85,77]),.slice (some ⟨g,0,none⟩) 3 c,.agg #[.int .i64 0,.int .i64 0]] w (Gives (.agg (pcs (errV k))) w):=by
 refine call_a (mk [83,85,77]) (by decide) {least:=1,most:=20,all:=some (.c 253 (.f 164))} (by kernel_rfl) rfl (.c 253 (.f 164)) rfl [numV (1,0),errV k,v] 3 rfl hx (by simp) (by decide) (by decide) (by decide) g c hc hm w hEl hE (errV k) ?_
 intro W gf ps hEW hAW hEn hd
 obtain⟨rfl,p,u,rfl,hb,hu⟩:=hd.c_inv
 exact⟨eg253,gathered_bad 0 (errV k) _ rfl _ p W hAW (by simp) hEn⟩
end Go.Proofs.YtmhfioimgllgeaaGreatDoor
