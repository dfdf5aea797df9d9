/- The law FunFaults, walked. (By genflw.py.) -/
import Derived.Test.YtmhfioimgllgeaaGreatDoorV01
import Derived.Test.YtmhfioimgllgeaaGreatDoorV56
import Derived.Test.YtmhfioimgllgeaaGreatDoorV55
import Derived.Test.YtmhfioimgllgeaaGreatDoorV52
namespace Go.Proofs.YtmhfioimgllgeaaGreatDoor
open Go Go.RowKit Go.Shelf
theorem blk_new'' (w:World) (t:Nat) (cs:Array Value):World.blk (w.alloc (.cells cs t)) w.heap.size t cs:=blk_new' w t cs _ rfl
theorem info61 :(Tryz.prog.info? 61).map (·.size)=some 5:=by kernel_rfl
theorem bslice_nf (w:World):(Instr.buildSlice 23 16 #[(0,.string ⟨#[65,66,83]⟩),(1,.string ⟨#[73,78,84]⟩),(2,.string ⟨#[76,69,78]⟩),(3,.string ⟨#[85,80,80,69,82]⟩),(4,.string ⟨#[78,79,84]⟩),(5,.string ⟨#[83,85,77]⟩),(6,.string ⟨#[77,65,88]⟩),(7,.string ⟨#[77,69,68,73,65,78]⟩),(8,.string ⟨#[65,78,68]⟩),(9,.string ⟨#[88,79,82]⟩),(10,.string ⟨#[67,79,78,67,65,84]⟩),(11,.string ⟨#[82,79,87,83]⟩),(12,.string ⟨#[86,65,76,85,69]⟩),(13,.string ⟨#[67,79,68,69]⟩),(14,.string ⟨#[83,79,82,84]⟩),(15,.string ⟨#[73,83,79,68,68]⟩)]).run Tryz.prog w= .ok (.slice (some ⟨w.heap.size,0,none⟩) 16 16) (w.alloc (.cells (NF.map fun l=>Value.string (mk l)).toArray 9)):=by kernel_rfl
theorem bslice1g (x:Vl) (w:World):(Instr.buildSlice 31 1 #[(0,.agg (pcs x))]).run Tryz.prog w= .ok (.slice (some ⟨w.heap.size,0,none⟩) 1 1) (w.alloc (.cells (vsC [x]).toArray 39)):=by kernel_rfl
theorem els_new (l:List Vl) (w:World):Els l w.heap.size 0 (w.alloc (.cells (vsC l).toArray 39)):=by
 refine⟨by simp,fun i y hy j u hj=> ?_⟩
 rw[Nat.zero_add]
 have h:=World.vb_new w (vsC l).toArray
 refine h.cell ?_
 rw[List.getElem?_toArray]
 have e:vsC l=(l.map pcs).flatMap (·.toList):=by unfold vsC;rw[List.flatMap_map]
 rw[e]
 refine cat_at (l.map pcs) (fun C hC=> ?_) i j (by rw[List.getElem?_map,hy];rfl) hj
 obtain⟨z,_,rfl⟩:=List.mem_map.1 hC
 rfl
theorem op_bsl1 {o:Oper} {a:Act} {w:World} {K:Act→World→Prop} {Q:Exit→Act→World→Prop} {p:Operand} {x:Vl} (ho:o.op= .buildSlice 31 1 #[(0,p)]) (hx:a.eval p= .agg (pcs x)) (h:K (a.put o.dst (.slice (some ⟨w.heap.size,0,none⟩) 1 1)) (w.alloc (.cells (vsC [x]).toArray 39))):o.wp Tryz.prog a w K Q:=by
 have hz:=bslice1g x w
 unfold Oper.wp execOp
 simp[ho,hx,hz]
 exact h
section
variable {ops : Array Oper} {rest : List Oper} {o : Oper} {a : Act} {w : World} {Q : Exit → Act → World → Prop}
theorem wpList_load61 {x:Operand} {g:Nat} {cs:Array Value} (hgd:o.guard=none) (ho:o.op= .load 61 x) (hx:a.eval x= .pointer (some ⟨g,0,none⟩)) (hn:World.blk w g 61 cs) (hs:cs.size=5)
 (h:wpList Tryz.prog ops Q rest (a.put o.dst (.agg cs)) w):wpList Tryz.prog ops Q (o :: rest) a w:=
 wpList_load_row hgd 61 x ho g hx 61 _ (0,0) _ hn Tryz.underlying61 rfl (by rw[hs];exact info61) h
theorem wpList_nf (hgd:o.guard=none) (ho:o.op= .buildSlice 23 16 #[(0,.const (.string ⟨#[65,66,83]⟩)),(1,.const (.string ⟨#[73,78,84]⟩)),(2,.const (.string ⟨#[76,69,78]⟩)),(3,.const (.string ⟨#[85,80,80,69,82]⟩)),(4,.const (.string ⟨#[78,79,84]⟩)),(5,.const (.string ⟨#[83,85,77]⟩)),(6,.const (.string ⟨#[77,65,88]⟩)),(7,.const (.string ⟨#[77,69,68,73,65,78]⟩)),(8,.const (.string ⟨#[65,78,68]⟩)),(9,.const (.string ⟨#[88,79,82]⟩)),(10,.const (.string ⟨#[67,79,78,67,65,84]⟩)),(11,.const (.string ⟨#[82,79,87,83]⟩)),(12,.const (.string ⟨#[86,65,76,85,69]⟩)),(13,.const (.string ⟨#[67,79,68,69]⟩)),(14,.const (.string ⟨#[83,79,82,84]⟩)),(15,.const (.string ⟨#[73,83,79,68,68]⟩))]) (h:wpList Tryz.prog ops Q rest (a.put o.dst (.slice (some ⟨w.heap.size,0,none⟩) 16 16)) (w.alloc (.cells (NF.map fun l=>Value.string (mk l)).toArray 9))):wpList Tryz.prog ops Q (o :: rest) a w:=
 wpList_plain hgd fun K hK=>by
  have hz:=bslice_nf w
  have he:∀v,a.eval (.const v)=v:=fun _=>rfl
  unfold Oper.wp execOp
  simp only[ho,List.map_toArray,List.map_cons,List.map_nil,he,hz,Sem.run_bind,Sem.run_pure,Result.andThen_ok]
  exact hK _ _ h
end
set_option maxRecDepth 100000 in
set_option maxHeartbeats 4000000 in
theorem call20 (s:ByteArray) (L:Value) (w:World) (y:Vl) (p:Option Addr) (n c:Nat) (hL:L= .slice p n c) (h:∀W,Below w.heap.size w W→Calls Tryz.prog 18 #[.string s,L,.agg #[.int .i64 0,.int .i64 0]] W (Gives (.agg (pcs y)) W)):Calls Tryz.prog 20 #[.string s,L] w (Gives (.agg (pcs y)) w):=by
 subst hL
 have hB0:Below w.heap.size w (w.alloc (.cells vz 39)):=(Below.refl _ w).alloc (Nat.le_refl _) _
 have hv0:World.vb (w.alloc (.cells vz 39)) w.heap.size vz:=World.vb_new w vz
 have HC:=Lib.hid (h _ hB0)
 clear h
 go_enter Tryz.func20,Tryz.ntmps20
 go_wp2_with (first|refine wpList_alloc34 rfl rfl ?_|(go_at_call 18;refine HC.out.mono ?_;rintro e w1 ⟨rfl,hB1⟩;have hvy:=hv0.below hB1 hv0.lt;have hB:=hB0.trans (hB1.mono hB0.size))|(refine wpList_store34 rfl rfl rfl rfl hvy (by rfl) (pcs_one _) ?_;intro w9 hn9 hg9 hz9))
 refine bodyPost_ret (results_cell_row rfl _ _ _ 39 _ (0,0) _ rfl hn9 Tryz.underlying39 rfl info34) rfl ?_
 exact⟨rfl,hB.grown hg9 hB.size (fun k9 hk9=>by cases hk9;omega)⟩
theorem nf_len :NF.length=16:=by decide
theorem nf_cell {w:World} {g:Nat} (h:World.blk w g 9 (NF.map fun l=>Value.string (mk l)).toArray) {k:Nat} {nm:List UInt8} (hk:NF[k]? =some nm):w.cell? ⟨g,k,none⟩=some (.string (mk nm)):=
 h.cell (by rw[List.getElem?_toArray,List.getElem?_map,hk];rfl)
theorem err_plain {k:Int} (h1:1≤k) (h9:k≤9):plainV (errV k)=true:=by
 unfold plainV
 have e:bareV (errV k) (errV k).k=true:=rfl
 rw[e]
 simp[errV,h1,h9]
set_option maxRecDepth 100000 in
set_option maxHeartbeats 16000000 in
theorem law_faults (e:Int) (he0:0≤e) (he1:e≤255) (z:Rw) (hz:RwOk z) (n:Int) (h0: -9223372036854775808≤n) (h1:n≤9223372036854775807) (w:World) (hE:Env w):Calls Tryz.prog 9 #[.int .u8 e,.agg z.c,.int .i64 n] w (Gives (.bool true) w):=by
 have hvp:plainV z.v=true:=valP_plain _ _ _ _ _
 have HV:=Lib.hid (show ∀W,Calls Tryz.prog 29 #[.agg z.c] W (Gives (.agg (pcs z.v)) W)from fun W=>val_any z.k z.m z.e z.s z.b W hz.k hz.m hz.e hz.s)
 obtain⟨v,hv⟩:∃v,v=z.v:=⟨_,rfl⟩
 rw[←hv]at hvp HV
 have hO5:(z.c).size=5:=rfl
 obtain⟨RC,hRC⟩:∃RC,RC=z.c:=⟨_,rfl⟩
 rw[←hRC]at HV hO5⊢
 have HO5:=Lib.hid hO5
 clear hv hRC hO5 hz
 obtain⟨k,hk⟩:∃k,k=1+e.tmod 9:=⟨_,rfl⟩
 have hk1:1≤k∧k≤9:=by
  have h1:=Int.tmod_nonneg 9 he0
  have h2:=Int.tmod_lt_of_pos e (b:=9) (by decide)
  omega
 have HP1:=Lib.hid (err_plain hk1.1 hk1.2)
 have HX2:Hid (∀x∈ [errV k,v],plainV x=true):=Lib.hid fun x hx=>by
  rcases List.mem_cons.1 hx with rfl|hx
  ·exact HP1.out
  ·rw[List.mem_singleton.1 hx];exact hvp
 have HX3:Hid (∀x∈ [errV k,v,v],plainV x=true):=Lib.hid fun x hx=>by
  rcases List.mem_cons.1 hx with rfl|hx
  ·exact HP1.out
  ·rcases List.mem_cons.1 hx with rfl|hx
   ·exact hvp
   ·rw[List.mem_singleton.1 hx];exact hvp
 have HX1:Hid (∀x∈ [numV (1,0),errV k,v],plainV x=true):=Lib.hid fun x hx=>by
  rcases List.mem_cons.1 hx with rfl|hx
  ·rfl
  ·exact HX2.out x hx
 have HSE:=Lib.hid (show ∀W,Calls Tryz.prog 21 #[.agg (pcs (errV k)),.agg (pcs (errV k))] W (Gives (.bool true) W)from fun W=>same26 (at_plain HP1.out) (at_plain HP1.out) rfl)
 have HSV:=Lib.hid (show ∀W,Calls Tryz.prog 21 #[.agg (pcs v),.agg (pcs v)] W (Gives (.bool true) W)from fun W=>same26 (at_plain hvp) (at_plain hvp) rfl)
 have HST:=Lib.hid (show ∀W,Calls Tryz.prog 21 #[.agg (pcs (trV true)),.agg (pcs (trV true))] W (Gives (.bool true) W)from fun W=>same26 (at_plain rfl) (at_plain rfl) rfl)
 have H16:=Lib.hid (show ∀nm,nm∈NF→∀W g,Below w.heap.size w W→Els [errV k] g 0 W→Calls Tryz.prog 20 #[.string (mk nm),.slice (some ⟨g,0,none⟩) 1 1] W (Gives (.agg (pcs (errV k))) W)from fun nm hnm W g hW hEl=>call20 _ _ W _ _ 1 1 rfl fun W2 hW2=>call_f1 hnm k HP1.out g 1 (by decide) (by unfold maxLen;omega) W2 (hEl.below hW2) ((hE.below hW).below hW2))
 have HIFERROR:=Lib.hid (show ∀W g,Below w.heap.size w W→Els [errV k,v] g 0 W→Calls Tryz.prog 20 #[.string ⟨#[73,70,69,82,82,79,82]⟩,.slice (some ⟨g,0,none⟩) 2 2] W (Gives (.agg (pcs v)) W)from fun W g hW hEl=>call20 _ _ W _ _ 2 2 rfl fun W2 hW2=>call_iferr k v HX2.out g 2 (by decide) (by unfold maxLen;omega) W2 (hEl.below hW2) ((hE.below hW).below hW2))
 have HIFNA:=Lib.hid (show ∀W g,Below w.heap.size w W→Els [errV k,v] g 0 W→Calls Tryz.prog 20 #[.string ⟨#[73,70,78,65]⟩,.slice (some ⟨g,0,none⟩) 2 2] W (Gives (.agg (pcs (if k=7 then v else errV k))) W)from fun W g hW hEl=>call20 _ _ W _ _ 2 2 rfl fun W2 hW2=>call_ifna k v HX2.out g 2 (by decide) (by unfold maxLen;omega) W2 (hEl.below hW2) ((hE.below hW).below hW2))
 have HISERROR:=Lib.hid (show ∀W g,Below w.heap.size w W→Els [errV k] g 0 W→Calls Tryz.prog 20 #[.string ⟨#[73,83,69,82,82,79,82]⟩,.slice (some ⟨g,0,none⟩) 1 1] W (Gives (.agg (pcs (trV true))) W)from fun W g hW hEl=>call20 _ _ W _ _ 1 1 rfl fun W2 hW2=>call_iserr k HP1.out g 1 (by decide) (by unfold maxLen;omega) W2 (hEl.below hW2) ((hE.below hW).below hW2))
 have HIF:=Lib.hid (show ∀W g,Below w.heap.size w W→Els [errV k,v,v] g 0 W→Calls Tryz.prog 20 #[.string ⟨#[73,70]⟩,.slice (some ⟨g,0,none⟩) 3 3] W (Gives (.agg (pcs (errV k))) W)from fun W g hW hEl=>call20 _ _ W _ _ 3 3 rfl fun W2 hW2=>call_if_bad k v HX3.out g 3 (by decide) (by unfold maxLen;omega) W2 (hEl.below hW2) ((hE.below hW).below hW2))
 have HROUND:=Lib.hid (show ∀W g,Below w.heap.size w W→Els [errV k,v] g 0 W→Calls Tryz.prog 20 #[.string ⟨#[82,79,85,78,68]⟩,.slice (some ⟨g,0,none⟩) 2 2] W (Gives (.agg (pcs (errV k))) W)from fun W g hW hEl=>call20 _ _ W _ _ 2 2 rfl fun W2 hW2=>call_round_bad k v HX2.out g 2 (by decide) (by unfold maxLen;omega) W2 (hEl.below hW2) ((hE.below hW).below hW2))
 have HMATCH:=Lib.hid (show ∀W g,Below w.heap.size w W→Els [errV k,v] g 0 W→Calls Tryz.prog 20 #[.string ⟨#[77,65,84,67,72]⟩,.slice (some ⟨g,0,none⟩) 2 2] W (Gives (.agg (pcs (errV k))) W)from fun W g hW hEl=>call20 _ _ W _ _ 2 2 rfl fun W2 hW2=>call_match_bad k v HX2.out g 2 (by decide) (by unfold maxLen;omega) W2 (hEl.below hW2) ((hE.below hW).below hW2))
 have HSUM:=Lib.hid (show ∀W g,Below w.heap.size w W→Els [numV (1,0),errV k,v] g 0 W→Calls Tryz.prog 20 #[.string ⟨#[83,85,77]⟩,.slice (some ⟨g,0,none⟩) 3 3] W (Gives (.agg (pcs (errV k))) W)from fun W g hW hEl=>call20 _ _ W _ _ 3 3 rfl fun W2 hW2=>call_sum_bad k v HX1.out g 3 (by decide) (by unfold maxLen;omega) W2 (hEl.below hW2) ((hE.below hW).below hW2))
 obtain⟨na,hna⟩:∃na,na=if k=7 then v else errV k:=⟨_,rfl⟩
 have HSN:=Lib.hid (show ∀W,Calls Tryz.prog 21 #[.agg (pcs na),.agg (pcs na)] W (Gives (.bool true) W)from fun W=>by
  have:plainV na=true:=by
   rw[hna]
   by_cases h7:k=7
   ·rw[if_pos h7];exact hvp
   ·rw[if_neg h7];exact HP1.out
  exact same26 (at_plain this) (at_plain this) rfl)
 rw[←hna]at HIFNA
 have HNA:=Lib.hid hna
 have HP:=Lib.hid (fun W=>pick14 n 16 W h0 h1 (by decide) (by decide))
 have hpb:=pickI_bd n (n:=16) (by decide)
 obtain⟨i,hi⟩:∃k:Nat,pickI n 16=(k:Int):=⟨(pickI n 16).toNat,by omega⟩
 rw[hi]at HP hpb
 obtain⟨hp0,hp1⟩:=hpb
 obtain⟨nm,hnm⟩:∃x,NF[i]? =some x:=⟨_,List.getElem?_eq_getElem (by rw[nf_len];omega)⟩
 have HF:=Lib.hid (H16.out nm (List.mem_of_getElem? hnm))
 have HNM:=Lib.hid hnm
 have HN1:=Lib.hid (fun W=>ex_num 1 (by decide) (by decide) (by kernel_rfl) W)
 have HEX:=Lib.hid (examples_any (w.alloc (.cells RC 61)) (hE.below ((Below.refl _ w).alloc (Nat.le_refl _) _)))
 have we:IntKind.i64.wrap e=e:=by rw[IntKind.wrap_i64];omega
 have wk:IntKind.i64.wrap (1+e.tmod 9)=k:=by rw[←hk,IntKind.wrap_i64];omega
 have hB0:Below w.heap.size w (w.alloc (.cells RC 61)):=(Below.refl _ w).alloc (Nat.le_refl _) _
 have hraw:World.blk (w.alloc (.cells RC 61)) w.heap.size 61 RC:=blk_new'' _ _ _
 clear hna hi hnm H16 HP1 HX1 HX2 HX3 hvp hE h0 h1 hk hk1 he0 he1
 go_enter Tryz.func9,Tryz.ntmps9
 go_wp2_with fail
 refine HEX.out.mono ?_
 rintro e1 w1 ⟨rfl,hB1⟩
 have hB:=hB0.trans (hB1.mono hB0.size)
 have hraw:=hraw.below hB1 hraw.lt
 clear hB0 hB1 HEX
 go_upto_region 5 with (first|refine wpList_build_err rfl rfl (by rfl) ?_|refine wpList_alloc34 rfl rfl ?_|(refine wpList_store34 rfl rfl rfl rfl (World.vb_new' _ _ _ rfl) (by rfl) (pcs_one _) ?_;intro w2 hn8 hg2 hz2))
 obtain⟨b8,hb8⟩:∃b,b=w1.heap.size:=⟨_,rfl⟩
 rw[←hb8]at hn8⊢
 have hb2:Below w1.heap.size w1 w2:=((Below.refl _ w1).alloc (Nat.le_refl _) (.cells vz 39)).grown hg2 (by simp) (fun k hk=>by cases hk;exact Nat.le_refl _)
 have hB:=hB.trans (hb2.mono hB.size)
 have hraw:=hraw.below hb2 hraw.lt
 clear hg2 hz2 hb2 hb8 we wk
 go_upto_region 6 with (first|refine wpList_load61 rfl rfl rfl hraw HO5.out ?_|(go_at_call 29;refine(HV.out _).mono ?_;rintro e w3 ⟨rfl,hB3⟩;have hn8:=hn8.below hB3 hn8.lt;have hB:=hB.trans (hB3.mono hB.size))|refine wpList_alloc34 rfl rfl ?_|(refine wpList_store34 rfl rfl rfl rfl (World.vb_new' _ _ _ rfl) (by rfl) (pcs_one _) ?_;intro w4 hn9 hg4 hz4))
 obtain⟨b9,hb9⟩:∃b,b=w3.heap.size:=⟨_,rfl⟩
 rw[←hb9]at hn9⊢
 have hb4:Below w3.heap.size w3 w4:=((Below.refl _ w3).alloc (Nat.le_refl _) (.cells vz 39)).grown hg4 (by simp) (fun k hk=>by cases hk;exact Nat.le_refl _)
 have hB:=hB.trans (hb4.mono hB.size)
 have hn8:=hn8.below hb4 hn8.lt
 clear hg4 hz4 hb4 hb9 HV hraw
 go_upto_region 7 with (refine wpList_nf rfl rfl ?_)
 obtain⟨W5,hW5⟩:∃W,W=w4.alloc (.cells (NF.map fun l=>Value.string (mk l)).toArray 9):=⟨_,rfl⟩
 have hnm5:World.blk W5 w4.heap.size 9 (NF.map fun l=>Value.string (mk l)).toArray:=by rw[hW5];exact blk_new'' _ _ _
 have hb5:Below w4.heap.size w4 W5:=by rw[hW5];exact(Below.refl _ _).alloc (Nat.le_refl _) _
 rw[←hW5]
 obtain⟨b10,hb10⟩:∃b,b=w4.heap.size:=⟨_,rfl⟩
 rw[←hb10]at hnm5⊢
 have hB:=hB.trans (hb5.mono hB.size)
 have hn8:=hn8.below hb5 hn8.lt
 have hn9:=hn9.below hb5 hn9.lt
 have c10:=nf_cell hnm5 HNM.out
 clear hW5 hb5 hb10 hnm5
 go_upto_region 8 with (go_at_call 14;refine(HP.out _).mono ?_;rintro e z1 ⟨rfl,rfl⟩)
 clear c10 HP hp0 hp1
 go_upto_region 9 with (first|refine wpList_load34 rfl rfl rfl hn9 (by rfl) ?_|refine wpList_alloc34 rfl rfl ?_|(refine wpList_store34 rfl rfl rfl rfl (World.vb_new' _ _ _ rfl) (by rfl) (pcs_one _) ?_;intro w6 hn12 hg6 hz6))
 obtain⟨b12,hb12⟩:∃b,b=z1.heap.size:=⟨_,rfl⟩
 rw[←hb12]at hn12⊢
 have hb6:Below z1.heap.size z1 w6:=((Below.refl _ z1).alloc (Nat.le_refl _) (.cells vz 39)).grown hg6 (by simp) (fun k hk=>by cases hk;exact Nat.le_refl _)
 have h128:b8≠b12:=by have:=hn8.lt;omega
 have h129:b9≠b12:=by have:=hn9.lt;omega
 have hB6:=hB.trans (hb6.mono hB.size)
 have hb12l:w.heap.size≤b12:=by rw[hb12];exact hB.size
 have hn8:=hn8.below hb6 hn8.lt
 have hn9:=hn9.below hb6 hn9.lt
 clear hg6 hz6 hb6 hb12 hB
 have c84:w6.cell? ⟨b8,5,none⟩=some (.int .i64 k):=hn8.cell rfl
 by_cases hk7:k=7
 ·have h12:World.vb w6 b12 (pcs na):=by rw[HNA.out,if_pos hk7];exact hn12
  have hB:=hB6
  clear hn12 hB6 HNA
  go_upto_region 11 with fail
  clear c84 hk7
  simp only[List.append_eq,List.cons_append,List.nil_append]
  refine wp_region_held_drew (S:=fun w9=>World.vb w9 b8 (pcs (errV k))∧World.vb w9 b9 (pcs v)∧World.vb w9 b12 (pcs na)) (by kernel_rfl) ⟨hn8,hn9,h12⟩ (fun hHeld=> ?_)
  refine tk 0 ⟨some 36,_,_,_,_,_⟩ ?_ hHeld ?_ ?_
  rotate_left
  ·(intro w9 hSw;(try dsimp only at hSw);go_simp)
   all_goals with_reducible rfl
  try simp only[Act.put,List.setIfInBounds_toArray,List.set_cons_zero,List.set_cons_succ]
  refine tk 1 ⟨some 37,_,_,_,_,_⟩ ?_ hHeld ?_ ?_
  rotate_left
  ·(intro w9 hSw;(try dsimp only at hSw);go_simp)
   all_goals with_reducible rfl
  try simp only[Act.put,List.setIfInBounds_toArray,List.set_cons_zero,List.set_cons_succ]
  refine tk 2 ⟨some 38,_,_,_,_,_⟩ ?_ hHeld ?_ ?_
  rotate_left
  ·(intro w9 hSw;(try dsimp only at hSw);go_simp)
   all_goals with_reducible rfl
  try simp only[Act.put,List.setIfInBounds_toArray,List.set_cons_zero,List.set_cons_succ]
  refine tk 3 ⟨some 39,_,_,_,_,_⟩ ?_ hHeld ?_ ?_
  rotate_left
  ·(intro w9 hSw;refine yields34 (x:= .tmp 8) (g:=b8) (cs:=pcs (errV k)) ?_ ?_ rfl hSw.1<;>rfl)
  try simp only[Act.put,List.setIfInBounds_toArray,List.set_cons_zero,List.set_cons_succ]
  refine tk 6 ⟨some 42,_,_,_,_,_⟩ ?_ hHeld ?_ ?_
  rotate_left
  ·(intro w9 hSw;refine yields34 (x:= .tmp 8) (g:=b8) (cs:=pcs (errV k)) ?_ ?_ rfl hSw.1<;>rfl)
  try simp only[Act.put,List.setIfInBounds_toArray,List.set_cons_zero,List.set_cons_succ]
  have hn8:=World.vb.drew hn8
  have hn9:=World.vb.drew hn9
  have h12:=World.vb.drew h12
  have hB:=hB.drew
  refine wpAnyH_ready (rs:= [4]) (by kernel_rfl) (by simp) ?_
  refine(AllReadyH.cons (o:=⟨some 40,_,_,_,_,_⟩) rfl (fun KK hK=> ?_) AllReadyH.nil)
  ·(try rw[if_pos (by rfl)])
   refine op_bsl1 rfl rfl ?_
   obtain⟨x1,hx1⟩:∃X,X=World.alloc w6.drew (.cells (vsC [errV k]).toArray 39):=⟨_,rfl⟩
   obtain⟨gA,hgA⟩:∃g,g=(w6.drew).heap.size:=⟨_,rfl⟩
   have hA:Els [errV k] gA 0 x1:=by rw[hx1,hgA];exact els_new _ _
   have hb:Below (w6.drew).heap.size (w6.drew) x1:=by rw[hx1];exact(Below.refl _ _).alloc (Nat.le_refl _) _
   rw[←hx1,←hgA]
   clear hx1 hgA
   have hn8:=hn8.below hb hn8.lt
   have hn9:=hn9.below hb hn9.lt
   have h12:=h12.below hb h12.lt
   have hB:=hB.trans (hb.mono hB.size)
   clear hb
   refine hK.out _ _ ⟨hn8,hn9,h12⟩ ?_
   clear hK KK hHeld
   intro hHeld
   try simp only[Act.put,List.setIfInBounds_toArray,List.set_cons_zero,List.set_cons_succ]
   refine wpAnyH_ready (rs:= [5]) (by kernel_rfl) (by simp) ?_
   refine(AllReadyH.cons (o:=⟨some 41,_,_,_,_,_⟩) rfl (fun KK hK=> ?_) AllReadyH.nil)
   ·(try rw[if_pos (by rfl)])
    go_simp
    refine(HF.out _ _ hB hA).mono ?_
    rintro e x2 ⟨rfl,hb⟩
    have hn8:=hn8.below hb hn8.lt
    have hn9:=hn9.below hb hn9.lt
    have h12:=h12.below hb h12.lt
    have hB:=hB.trans (hb.mono hB.size)
    clear hb hA
    refine hK.out _ _ ⟨hn8,hn9,h12⟩ ?_
    clear hK KK hHeld
    intro hHeld
    try simp only[Act.put,List.setIfInBounds_toArray,List.set_cons_zero,List.set_cons_succ,List.getElem_toArray,List.getElem_cons_zero,List.getElem_cons_succ]
    refine wpAnyH_ready (rs:= [7]) (by kernel_rfl) (by simp) ?_
    refine(AllReadyH.cons (o:=⟨some 43,_,_,_,_,_⟩) rfl (fun KK hK=> ?_) AllReadyH.nil)
    ·(try rw[if_pos (by rfl)])
     go_simp
     refine(HSE.out _).mono ?_
     rintro e x3 ⟨rfl,hb⟩
     have hn8:=hn8.below hb hn8.lt
     have hn9:=hn9.below hb hn9.lt
     have h12:=h12.below hb h12.lt
     have hB:=hB.trans (hb.mono hB.size)
     clear hb
     refine hK.out _ _ ⟨hn8,hn9,h12⟩ ?_
     clear hK KK hHeld
     intro hHeld
     try simp only[Act.put,List.setIfInBounds_toArray,List.set_cons_zero,List.set_cons_succ,List.getElem_toArray,List.getElem_cons_zero,List.getElem_cons_succ]
     refine tk 8 ⟨some 44,_,_,_,_,_⟩ ?_ hHeld ?_ ?_
     rotate_left
     ·(intro w9 hSw;(try dsimp only at hSw);go_simp)
      all_goals with_reducible rfl
     try simp only[Act.put,List.setIfInBounds_toArray,List.set_cons_zero,List.set_cons_succ]
     refine tk 9 ⟨some 45,_,_,_,_,_⟩ ?_ hHeld ?_ ?_
     rotate_left
     ·(intro w9 hSw;(try dsimp only at hSw);go_simp)
      all_goals with_reducible rfl
     try simp only[Act.put,List.setIfInBounds_toArray,List.set_cons_zero,List.set_cons_succ]
     refine tk 10 ⟨some 46,_,_,_,_,_⟩ ?_ hHeld ?_ ?_
     rotate_left
     ·(intro w9 hSw;refine yields34 (x:= .tmp 8) (g:=b8) (cs:=pcs (errV k)) ?_ ?_ rfl hSw.1<;>rfl)
     try simp only[Act.put,List.setIfInBounds_toArray,List.set_cons_zero,List.set_cons_succ]
     refine tk 11 ⟨some 47,_,_,_,_,_⟩ ?_ hHeld ?_ ?_
     rotate_left
     ·(intro w9 hSw;refine yields34 (x:= .tmp 9) (g:=b9) (cs:=pcs v) ?_ ?_ rfl hSw.2.1<;>rfl)
     try simp only[Act.put,List.setIfInBounds_toArray,List.set_cons_zero,List.set_cons_succ]
     refine tk 14 ⟨some 50,_,_,_,_,_⟩ ?_ hHeld ?_ ?_
     rotate_left
     ·(intro w9 hSw;refine yields34 (x:= .tmp 9) (g:=b9) (cs:=pcs v) ?_ ?_ rfl hSw.2.1<;>rfl)
     try simp only[Act.put,List.setIfInBounds_toArray,List.set_cons_zero,List.set_cons_succ]
     refine wpAnyH_ready (rs:= [12]) (by kernel_rfl) (by simp) ?_
     refine(AllReadyH.cons (o:=⟨some 48,_,_,_,_,_⟩) rfl (fun KK hK=> ?_) AllReadyH.nil)
     ·(try rw[if_pos (by rfl)])
      refine op_bsl2 rfl rfl rfl ?_
      obtain⟨x4,hx4⟩:∃X,X=World.alloc x3 (.cells (vsC [errV k,v]).toArray 39):=⟨_,rfl⟩
      obtain⟨gA,hgA⟩:∃g,g=(x3).heap.size:=⟨_,rfl⟩
      have hA:Els [errV k,v] gA 0 x4:=by rw[hx4,hgA];exact els_new _ _
      have hb:Below (x3).heap.size (x3) x4:=by rw[hx4];exact(Below.refl _ _).alloc (Nat.le_refl _) _
      rw[←hx4,←hgA]
      clear hx4 hgA
      have hn8:=hn8.below hb hn8.lt
      have hn9:=hn9.below hb hn9.lt
      have h12:=h12.below hb h12.lt
      have hB:=hB.trans (hb.mono hB.size)
      clear hb
      refine hK.out _ _ ⟨hn8,hn9,h12⟩ ?_
      clear hK KK hHeld
      intro hHeld
      try simp only[Act.put,List.setIfInBounds_toArray,List.set_cons_zero,List.set_cons_succ]
      refine wpAnyH_ready (rs:= [13]) (by kernel_rfl) (by simp) ?_
      refine(AllReadyH.cons (o:=⟨some 49,_,_,_,_,_⟩) rfl (fun KK hK=> ?_) AllReadyH.nil)
      ·(try rw[if_pos (by rfl)])
       go_simp
       refine(HIFERROR.out _ _ hB hA).mono ?_
       rintro e x5 ⟨rfl,hb⟩
       have hn8:=hn8.below hb hn8.lt
       have hn9:=hn9.below hb hn9.lt
       have h12:=h12.below hb h12.lt
       have hB:=hB.trans (hb.mono hB.size)
       clear hb hA
       refine hK.out _ _ ⟨hn8,hn9,h12⟩ ?_
       clear hK KK hHeld
       intro hHeld
       try simp only[Act.put,List.setIfInBounds_toArray,List.set_cons_zero,List.set_cons_succ,List.getElem_toArray,List.getElem_cons_zero,List.getElem_cons_succ]
       refine wpAnyH_ready (rs:= [15]) (by kernel_rfl) (by simp) ?_
       refine(AllReadyH.cons (o:=⟨some 51,_,_,_,_,_⟩) rfl (fun KK hK=> ?_) AllReadyH.nil)
       ·(try rw[if_pos (by rfl)])
        go_simp
        refine(HSV.out _).mono ?_
        rintro e x6 ⟨rfl,hb⟩
        have hn8:=hn8.below hb hn8.lt
        have hn9:=hn9.below hb hn9.lt
        have h12:=h12.below hb h12.lt
        have hB:=hB.trans (hb.mono hB.size)
        clear hb
        refine hK.out _ _ ⟨hn8,hn9,h12⟩ ?_
        clear hK KK hHeld
        intro hHeld
        try simp only[Act.put,List.setIfInBounds_toArray,List.set_cons_zero,List.set_cons_succ,List.getElem_toArray,List.getElem_cons_zero,List.getElem_cons_succ]
        refine tk 16 ⟨some 52,_,_,_,_,_⟩ ?_ hHeld ?_ ?_
        rotate_left
        ·(intro w9 hSw;(try dsimp only at hSw);go_simp)
         all_goals with_reducible rfl
        try simp only[Act.put,List.setIfInBounds_toArray,List.set_cons_zero,List.set_cons_succ]
        refine tk 17 ⟨some 53,_,_,_,_,_⟩ ?_ hHeld ?_ ?_
        rotate_left
        ·(intro w9 hSw;(try dsimp only at hSw);go_simp)
         all_goals with_reducible rfl
        try simp only[Act.put,List.setIfInBounds_toArray,List.set_cons_zero,List.set_cons_succ]
        refine tk 18 ⟨some 54,_,_,_,_,_⟩ ?_ hHeld ?_ ?_
        rotate_left
        ·(intro w9 hSw;refine yields34 (x:= .tmp 8) (g:=b8) (cs:=pcs (errV k)) ?_ ?_ rfl hSw.1<;>rfl)
        try simp only[Act.put,List.setIfInBounds_toArray,List.set_cons_zero,List.set_cons_succ]
        refine tk 19 ⟨some 55,_,_,_,_,_⟩ ?_ hHeld ?_ ?_
        rotate_left
        ·(intro w9 hSw;refine yields34 (x:= .tmp 9) (g:=b9) (cs:=pcs v) ?_ ?_ rfl hSw.2.1<;>rfl)
        try simp only[Act.put,List.setIfInBounds_toArray,List.set_cons_zero,List.set_cons_succ]
        refine tk 22 ⟨some 58,_,_,_,_,_⟩ ?_ hHeld ?_ ?_
        rotate_left
        ·(intro w9 hSw;refine yields34 (x:= .tmp 12) (g:=b12) (cs:=pcs na) ?_ ?_ rfl hSw.2.2<;>rfl)
        try simp only[Act.put,List.setIfInBounds_toArray,List.set_cons_zero,List.set_cons_succ]
        refine wpAnyH_ready (rs:= [20]) (by kernel_rfl) (by simp) ?_
        refine(AllReadyH.cons (o:=⟨some 56,_,_,_,_,_⟩) rfl (fun KK hK=> ?_) AllReadyH.nil)
        ·(try rw[if_pos (by rfl)])
         refine op_bsl2 rfl rfl rfl ?_
         obtain⟨x7,hx7⟩:∃X,X=World.alloc x6 (.cells (vsC [errV k,v]).toArray 39):=⟨_,rfl⟩
         obtain⟨gA,hgA⟩:∃g,g=(x6).heap.size:=⟨_,rfl⟩
         have hA:Els [errV k,v] gA 0 x7:=by rw[hx7,hgA];exact els_new _ _
         have hb:Below (x6).heap.size (x6) x7:=by rw[hx7];exact(Below.refl _ _).alloc (Nat.le_refl _) _
         rw[←hx7,←hgA]
         clear hx7 hgA
         have hn8:=hn8.below hb hn8.lt
         have hn9:=hn9.below hb hn9.lt
         have h12:=h12.below hb h12.lt
         have hB:=hB.trans (hb.mono hB.size)
         clear hb
         refine hK.out _ _ ⟨hn8,hn9,h12⟩ ?_
         clear hK KK hHeld
         intro hHeld
         try simp only[Act.put,List.setIfInBounds_toArray,List.set_cons_zero,List.set_cons_succ]
         refine wpAnyH_ready (rs:= [21]) (by kernel_rfl) (by simp) ?_
         refine(AllReadyH.cons (o:=⟨some 57,_,_,_,_,_⟩) rfl (fun KK hK=> ?_) AllReadyH.nil)
         ·(try rw[if_pos (by rfl)])
          go_simp
          refine(HIFNA.out _ _ hB hA).mono ?_
          rintro e x8 ⟨rfl,hb⟩
          have hn8:=hn8.below hb hn8.lt
          have hn9:=hn9.below hb hn9.lt
          have h12:=h12.below hb h12.lt
          have hB:=hB.trans (hb.mono hB.size)
          clear hb hA
          refine hK.out _ _ ⟨hn8,hn9,h12⟩ ?_
          clear hK KK hHeld
          intro hHeld
          try simp only[Act.put,List.setIfInBounds_toArray,List.set_cons_zero,List.set_cons_succ,List.getElem_toArray,List.getElem_cons_zero,List.getElem_cons_succ]
          refine wpAnyH_ready (rs:= [23]) (by kernel_rfl) (by simp) ?_
          refine(AllReadyH.cons (o:=⟨some 59,_,_,_,_,_⟩) rfl (fun KK hK=> ?_) AllReadyH.nil)
          ·(try rw[if_pos (by rfl)])
           go_simp
           refine(HSN.out _).mono ?_
           rintro e x9 ⟨rfl,hb⟩
           have hn8:=hn8.below hb hn8.lt
           have hn9:=hn9.below hb hn9.lt
           have h12:=h12.below hb h12.lt
           have hB:=hB.trans (hb.mono hB.size)
           clear hb
           refine hK.out _ _ ⟨hn8,hn9,h12⟩ ?_
           clear hK KK hHeld
           intro hHeld
           try simp only[Act.put,List.setIfInBounds_toArray,List.set_cons_zero,List.set_cons_succ,List.getElem_toArray,List.getElem_cons_zero,List.getElem_cons_succ]
           refine tk 24 ⟨some 60,_,_,_,_,_⟩ ?_ hHeld ?_ ?_
           rotate_left
           ·(intro w9 hSw;(try dsimp only at hSw);go_simp)
            all_goals with_reducible rfl
           try simp only[Act.put,List.setIfInBounds_toArray,List.set_cons_zero,List.set_cons_succ]
           refine tk 25 ⟨some 61,_,_,_,_,_⟩ ?_ hHeld ?_ ?_
           rotate_left
           ·(intro w9 hSw;(try dsimp only at hSw);go_simp)
            all_goals with_reducible rfl
           try simp only[Act.put,List.setIfInBounds_toArray,List.set_cons_zero,List.set_cons_succ]
           refine tk 26 ⟨some 62,_,_,_,_,_⟩ ?_ hHeld ?_ ?_
           rotate_left
           ·(intro w9 hSw;refine yields34 (x:= .tmp 8) (g:=b8) (cs:=pcs (errV k)) ?_ ?_ rfl hSw.1<;>rfl)
           try simp only[Act.put,List.setIfInBounds_toArray,List.set_cons_zero,List.set_cons_succ]
           refine tk 29 ⟨some 65,_,_,_,_,_⟩ ?_ hHeld ?_ ?_
           rotate_left
           ·(intro w9 hSw;refine yields_tr (b:=true) ?_ trivial<;>rfl)
           try simp only[Act.put,List.setIfInBounds_toArray,List.set_cons_zero,List.set_cons_succ]
           refine wpAnyH_ready (rs:= [27]) (by kernel_rfl) (by simp) ?_
           refine(AllReadyH.cons (o:=⟨some 63,_,_,_,_,_⟩) rfl (fun KK hK=> ?_) AllReadyH.nil)
           ·(try rw[if_pos (by rfl)])
            refine op_bsl1 rfl rfl ?_
            obtain⟨x10,hx10⟩:∃X,X=World.alloc x9 (.cells (vsC [errV k]).toArray 39):=⟨_,rfl⟩
            obtain⟨gA,hgA⟩:∃g,g=(x9).heap.size:=⟨_,rfl⟩
            have hA:Els [errV k] gA 0 x10:=by rw[hx10,hgA];exact els_new _ _
            have hb:Below (x9).heap.size (x9) x10:=by rw[hx10];exact(Below.refl _ _).alloc (Nat.le_refl _) _
            rw[←hx10,←hgA]
            clear hx10 hgA
            have hn8:=hn8.below hb hn8.lt
            have hn9:=hn9.below hb hn9.lt
            have h12:=h12.below hb h12.lt
            have hB:=hB.trans (hb.mono hB.size)
            clear hb
            refine hK.out _ _ ⟨hn8,hn9,h12⟩ ?_
            clear hK KK hHeld
            intro hHeld
            try simp only[Act.put,List.setIfInBounds_toArray,List.set_cons_zero,List.set_cons_succ]
            refine wpAnyH_ready (rs:= [28]) (by kernel_rfl) (by simp) ?_
            refine(AllReadyH.cons (o:=⟨some 64,_,_,_,_,_⟩) rfl (fun KK hK=> ?_) AllReadyH.nil)
            ·(try rw[if_pos (by rfl)])
             go_simp
             refine(HISERROR.out _ _ hB hA).mono ?_
             rintro e x11 ⟨rfl,hb⟩
             have hn8:=hn8.below hb hn8.lt
             have hn9:=hn9.below hb hn9.lt
             have h12:=h12.below hb h12.lt
             have hB:=hB.trans (hb.mono hB.size)
             clear hb hA
             refine hK.out _ _ ⟨hn8,hn9,h12⟩ ?_
             clear hK KK hHeld
             intro hHeld
             try simp only[Act.put,List.setIfInBounds_toArray,List.set_cons_zero,List.set_cons_succ,List.getElem_toArray,List.getElem_cons_zero,List.getElem_cons_succ]
             refine wpAnyH_ready (rs:= [30]) (by kernel_rfl) (by simp) ?_
             refine(AllReadyH.cons (o:=⟨some 66,_,_,_,_,_⟩) rfl (fun KK hK=> ?_) AllReadyH.nil)
             ·(try rw[if_pos (by rfl)])
              go_simp
              refine(HST.out _).mono ?_
              rintro e x12 ⟨rfl,hb⟩
              have hn8:=hn8.below hb hn8.lt
              have hn9:=hn9.below hb hn9.lt
              have h12:=h12.below hb h12.lt
              have hB:=hB.trans (hb.mono hB.size)
              clear hb
              refine hK.out _ _ ⟨hn8,hn9,h12⟩ ?_
              clear hK KK hHeld
              intro hHeld
              try simp only[Act.put,List.setIfInBounds_toArray,List.set_cons_zero,List.set_cons_succ,List.getElem_toArray,List.getElem_cons_zero,List.getElem_cons_succ]
              refine tk 31 ⟨some 67,_,_,_,_,_⟩ ?_ hHeld ?_ ?_
              rotate_left
              ·(intro w9 hSw;(try dsimp only at hSw);go_simp)
               all_goals with_reducible rfl
              try simp only[Act.put,List.setIfInBounds_toArray,List.set_cons_zero,List.set_cons_succ]
              refine tk 32 ⟨some 68,_,_,_,_,_⟩ ?_ hHeld ?_ ?_
              rotate_left
              ·(intro w9 hSw;(try dsimp only at hSw);go_simp)
               all_goals with_reducible rfl
              try simp only[Act.put,List.setIfInBounds_toArray,List.set_cons_zero,List.set_cons_succ]
              refine tk 33 ⟨some 69,_,_,_,_,_⟩ ?_ hHeld ?_ ?_
              rotate_left
              ·(intro w9 hSw;refine yields34 (x:= .tmp 8) (g:=b8) (cs:=pcs (errV k)) ?_ ?_ rfl hSw.1<;>rfl)
              try simp only[Act.put,List.setIfInBounds_toArray,List.set_cons_zero,List.set_cons_succ]
              refine tk 34 ⟨some 70,_,_,_,_,_⟩ ?_ hHeld ?_ ?_
              rotate_left
              ·(intro w9 hSw;refine yields34 (x:= .tmp 9) (g:=b9) (cs:=pcs v) ?_ ?_ rfl hSw.2.1<;>rfl)
              try simp only[Act.put,List.setIfInBounds_toArray,List.set_cons_zero,List.set_cons_succ]
              refine tk 35 ⟨some 71,_,_,_,_,_⟩ ?_ hHeld ?_ ?_
              rotate_left
              ·(intro w9 hSw;refine yields34 (x:= .tmp 9) (g:=b9) (cs:=pcs v) ?_ ?_ rfl hSw.2.1<;>rfl)
              try simp only[Act.put,List.setIfInBounds_toArray,List.set_cons_zero,List.set_cons_succ]
              refine tk 38 ⟨some 74,_,_,_,_,_⟩ ?_ hHeld ?_ ?_
              rotate_left
              ·(intro w9 hSw;refine yields34 (x:= .tmp 8) (g:=b8) (cs:=pcs (errV k)) ?_ ?_ rfl hSw.1<;>rfl)
              try simp only[Act.put,List.setIfInBounds_toArray,List.set_cons_zero,List.set_cons_succ]
              refine wpAnyH_ready (rs:= [36]) (by kernel_rfl) (by simp) ?_
              refine(AllReadyH.cons (o:=⟨some 72,_,_,_,_,_⟩) rfl (fun KK hK=> ?_) AllReadyH.nil)
              ·(try rw[if_pos (by rfl)])
               refine op_bsl3 rfl rfl rfl rfl ?_
               obtain⟨x13,hx13⟩:∃X,X=World.alloc x12 (.cells (vsC [errV k,v,v]).toArray 39):=⟨_,rfl⟩
               obtain⟨gA,hgA⟩:∃g,g=(x12).heap.size:=⟨_,rfl⟩
               have hA:Els [errV k,v,v] gA 0 x13:=by rw[hx13,hgA];exact els_new _ _
               have hb:Below (x12).heap.size (x12) x13:=by rw[hx13];exact(Below.refl _ _).alloc (Nat.le_refl _) _
               rw[←hx13,←hgA]
               clear hx13 hgA
               have hn8:=hn8.below hb hn8.lt
               have hn9:=hn9.below hb hn9.lt
               have h12:=h12.below hb h12.lt
               have hB:=hB.trans (hb.mono hB.size)
               clear hb
               refine hK.out _ _ ⟨hn8,hn9,h12⟩ ?_
               clear hK KK hHeld
               intro hHeld
               try simp only[Act.put,List.setIfInBounds_toArray,List.set_cons_zero,List.set_cons_succ]
               refine wpAnyH_ready (rs:= [37]) (by kernel_rfl) (by simp) ?_
               refine(AllReadyH.cons (o:=⟨some 73,_,_,_,_,_⟩) rfl (fun KK hK=> ?_) AllReadyH.nil)
               ·(try rw[if_pos (by rfl)])
                go_simp
                refine(HIF.out _ _ hB hA).mono ?_
                rintro e x14 ⟨rfl,hb⟩
                have hn8:=hn8.below hb hn8.lt
                have hn9:=hn9.below hb hn9.lt
                have h12:=h12.below hb h12.lt
                have hB:=hB.trans (hb.mono hB.size)
                clear hb hA
                refine hK.out _ _ ⟨hn8,hn9,h12⟩ ?_
                clear hK KK hHeld
                intro hHeld
                try simp only[Act.put,List.setIfInBounds_toArray,List.set_cons_zero,List.set_cons_succ,List.getElem_toArray,List.getElem_cons_zero,List.getElem_cons_succ]
                refine wpAnyH_ready (rs:= [39]) (by kernel_rfl) (by simp) ?_
                refine(AllReadyH.cons (o:=⟨some 75,_,_,_,_,_⟩) rfl (fun KK hK=> ?_) AllReadyH.nil)
                ·(try rw[if_pos (by rfl)])
                 go_simp
                 refine(HSE.out _).mono ?_
                 rintro e x15 ⟨rfl,hb⟩
                 have hn8:=hn8.below hb hn8.lt
                 have hn9:=hn9.below hb hn9.lt
                 have h12:=h12.below hb h12.lt
                 have hB:=hB.trans (hb.mono hB.size)
                 clear hb
                 refine hK.out _ _ ⟨hn8,hn9,h12⟩ ?_
                 clear hK KK hHeld
                 intro hHeld
                 try simp only[Act.put,List.setIfInBounds_toArray,List.set_cons_zero,List.set_cons_succ,List.getElem_toArray,List.getElem_cons_zero,List.getElem_cons_succ]
                 refine tk 40 ⟨some 76,_,_,_,_,_⟩ ?_ hHeld ?_ ?_
                 rotate_left
                 ·(intro w9 hSw;(try dsimp only at hSw);go_simp)
                  all_goals with_reducible rfl
                 try simp only[Act.put,List.setIfInBounds_toArray,List.set_cons_zero,List.set_cons_succ]
                 refine tk 41 ⟨some 77,_,_,_,_,_⟩ ?_ hHeld ?_ ?_
                 rotate_left
                 ·(intro w9 hSw;(try dsimp only at hSw);go_simp)
                  all_goals with_reducible rfl
                 try simp only[Act.put,List.setIfInBounds_toArray,List.set_cons_zero,List.set_cons_succ]
                 refine tk 42 ⟨some 78,_,_,_,_,_⟩ ?_ hHeld ?_ ?_
                 rotate_left
                 ·(intro w9 hSw;refine yields34 (x:= .tmp 8) (g:=b8) (cs:=pcs (errV k)) ?_ ?_ rfl hSw.1<;>rfl)
                 try simp only[Act.put,List.setIfInBounds_toArray,List.set_cons_zero,List.set_cons_succ]
                 refine tk 43 ⟨some 79,_,_,_,_,_⟩ ?_ hHeld ?_ ?_
                 rotate_left
                 ·(intro w9 hSw;refine yields34 (x:= .tmp 9) (g:=b9) (cs:=pcs v) ?_ ?_ rfl hSw.2.1<;>rfl)
                 try simp only[Act.put,List.setIfInBounds_toArray,List.set_cons_zero,List.set_cons_succ]
                 refine tk 46 ⟨some 82,_,_,_,_,_⟩ ?_ hHeld ?_ ?_
                 rotate_left
                 ·(intro w9 hSw;refine yields34 (x:= .tmp 8) (g:=b8) (cs:=pcs (errV k)) ?_ ?_ rfl hSw.1<;>rfl)
                 try simp only[Act.put,List.setIfInBounds_toArray,List.set_cons_zero,List.set_cons_succ]
                 refine wpAnyH_ready (rs:= [44]) (by kernel_rfl) (by simp) ?_
                 refine(AllReadyH.cons (o:=⟨some 80,_,_,_,_,_⟩) rfl (fun KK hK=> ?_) AllReadyH.nil)
                 ·(try rw[if_pos (by rfl)])
                  refine op_bsl2 rfl rfl rfl ?_
                  obtain⟨x16,hx16⟩:∃X,X=World.alloc x15 (.cells (vsC [errV k,v]).toArray 39):=⟨_,rfl⟩
                  obtain⟨gA,hgA⟩:∃g,g=(x15).heap.size:=⟨_,rfl⟩
                  have hA:Els [errV k,v] gA 0 x16:=by rw[hx16,hgA];exact els_new _ _
                  have hb:Below (x15).heap.size (x15) x16:=by rw[hx16];exact(Below.refl _ _).alloc (Nat.le_refl _) _
                  rw[←hx16,←hgA]
                  clear hx16 hgA
                  have hn8:=hn8.below hb hn8.lt
                  have hn9:=hn9.below hb hn9.lt
                  have h12:=h12.below hb h12.lt
                  have hB:=hB.trans (hb.mono hB.size)
                  clear hb
                  refine hK.out _ _ ⟨hn8,hn9,h12⟩ ?_
                  clear hK KK hHeld
                  intro hHeld
                  try simp only[Act.put,List.setIfInBounds_toArray,List.set_cons_zero,List.set_cons_succ]
                  refine wpAnyH_ready (rs:= [45]) (by kernel_rfl) (by simp) ?_
                  refine(AllReadyH.cons (o:=⟨some 81,_,_,_,_,_⟩) rfl (fun KK hK=> ?_) AllReadyH.nil)
                  ·(try rw[if_pos (by rfl)])
                   go_simp
                   refine(HROUND.out _ _ hB hA).mono ?_
                   rintro e x17 ⟨rfl,hb⟩
                   have hn8:=hn8.below hb hn8.lt
                   have hn9:=hn9.below hb hn9.lt
                   have h12:=h12.below hb h12.lt
                   have hB:=hB.trans (hb.mono hB.size)
                   clear hb hA
                   refine hK.out _ _ ⟨hn8,hn9,h12⟩ ?_
                   clear hK KK hHeld
                   intro hHeld
                   try simp only[Act.put,List.setIfInBounds_toArray,List.set_cons_zero,List.set_cons_succ,List.getElem_toArray,List.getElem_cons_zero,List.getElem_cons_succ]
                   refine wpAnyH_ready (rs:= [47]) (by kernel_rfl) (by simp) ?_
                   refine(AllReadyH.cons (o:=⟨some 83,_,_,_,_,_⟩) rfl (fun KK hK=> ?_) AllReadyH.nil)
                   ·(try rw[if_pos (by rfl)])
                    go_simp
                    refine(HSE.out _).mono ?_
                    rintro e x18 ⟨rfl,hb⟩
                    have hn8:=hn8.below hb hn8.lt
                    have hn9:=hn9.below hb hn9.lt
                    have h12:=h12.below hb h12.lt
                    have hB:=hB.trans (hb.mono hB.size)
                    clear hb
                    refine hK.out _ _ ⟨hn8,hn9,h12⟩ ?_
                    clear hK KK hHeld
                    intro hHeld
                    try simp only[Act.put,List.setIfInBounds_toArray,List.set_cons_zero,List.set_cons_succ,List.getElem_toArray,List.getElem_cons_zero,List.getElem_cons_succ]
                    refine tk 48 ⟨some 84,_,_,_,_,_⟩ ?_ hHeld ?_ ?_
                    rotate_left
                    ·(intro w9 hSw;(try dsimp only at hSw);go_simp)
                     all_goals with_reducible rfl
                    try simp only[Act.put,List.setIfInBounds_toArray,List.set_cons_zero,List.set_cons_succ]
                    refine tk 49 ⟨some 85,_,_,_,_,_⟩ ?_ hHeld ?_ ?_
                    rotate_left
                    ·(intro w9 hSw;(try dsimp only at hSw);go_simp)
                     all_goals with_reducible rfl
                    try simp only[Act.put,List.setIfInBounds_toArray,List.set_cons_zero,List.set_cons_succ]
                    refine tk 50 ⟨some 86,_,_,_,_,_⟩ ?_ hHeld ?_ ?_
                    rotate_left
                    ·(intro w9 hSw;refine yields34 (x:= .tmp 8) (g:=b8) (cs:=pcs (errV k)) ?_ ?_ rfl hSw.1<;>rfl)
                    try simp only[Act.put,List.setIfInBounds_toArray,List.set_cons_zero,List.set_cons_succ]
                    refine tk 51 ⟨some 87,_,_,_,_,_⟩ ?_ hHeld ?_ ?_
                    rotate_left
                    ·(intro w9 hSw;refine yields34 (x:= .tmp 9) (g:=b9) (cs:=pcs v) ?_ ?_ rfl hSw.2.1<;>rfl)
                    try simp only[Act.put,List.setIfInBounds_toArray,List.set_cons_zero,List.set_cons_succ]
                    refine tk 54 ⟨some 90,_,_,_,_,_⟩ ?_ hHeld ?_ ?_
                    rotate_left
                    ·(intro w9 hSw;refine yields34 (x:= .tmp 8) (g:=b8) (cs:=pcs (errV k)) ?_ ?_ rfl hSw.1<;>rfl)
                    try simp only[Act.put,List.setIfInBounds_toArray,List.set_cons_zero,List.set_cons_succ]
                    refine wpAnyH_ready (rs:= [52]) (by kernel_rfl) (by simp) ?_
                    refine(AllReadyH.cons (o:=⟨some 88,_,_,_,_,_⟩) rfl (fun KK hK=> ?_) AllReadyH.nil)
                    ·(try rw[if_pos (by rfl)])
                     refine op_bsl2 rfl rfl rfl ?_
                     obtain⟨x19,hx19⟩:∃X,X=World.alloc x18 (.cells (vsC [errV k,v]).toArray 39):=⟨_,rfl⟩
                     obtain⟨gA,hgA⟩:∃g,g=(x18).heap.size:=⟨_,rfl⟩
                     have hA:Els [errV k,v] gA 0 x19:=by rw[hx19,hgA];exact els_new _ _
                     have hb:Below (x18).heap.size (x18) x19:=by rw[hx19];exact(Below.refl _ _).alloc (Nat.le_refl _) _
                     rw[←hx19,←hgA]
                     clear hx19 hgA
                     have hn8:=hn8.below hb hn8.lt
                     have hn9:=hn9.below hb hn9.lt
                     have h12:=h12.below hb h12.lt
                     have hB:=hB.trans (hb.mono hB.size)
                     clear hb
                     refine hK.out _ _ ⟨hn8,hn9,h12⟩ ?_
                     clear hK KK hHeld
                     intro hHeld
                     try simp only[Act.put,List.setIfInBounds_toArray,List.set_cons_zero,List.set_cons_succ]
                     refine wpAnyH_ready (rs:= [53]) (by kernel_rfl) (by simp) ?_
                     refine(AllReadyH.cons (o:=⟨some 89,_,_,_,_,_⟩) rfl (fun KK hK=> ?_) AllReadyH.nil)
                     ·(try rw[if_pos (by rfl)])
                      go_simp
                      refine(HMATCH.out _ _ hB hA).mono ?_
                      rintro e x20 ⟨rfl,hb⟩
                      have hn8:=hn8.below hb hn8.lt
                      have hn9:=hn9.below hb hn9.lt
                      have h12:=h12.below hb h12.lt
                      have hB:=hB.trans (hb.mono hB.size)
                      clear hb hA
                      refine hK.out _ _ ⟨hn8,hn9,h12⟩ ?_
                      clear hK KK hHeld
                      intro hHeld
                      try simp only[Act.put,List.setIfInBounds_toArray,List.set_cons_zero,List.set_cons_succ,List.getElem_toArray,List.getElem_cons_zero,List.getElem_cons_succ]
                      refine wpAnyH_ready (rs:= [55]) (by kernel_rfl) (by simp) ?_
                      refine(AllReadyH.cons (o:=⟨some 91,_,_,_,_,_⟩) rfl (fun KK hK=> ?_) AllReadyH.nil)
                      ·(try rw[if_pos (by rfl)])
                       go_simp
                       refine(HSE.out _).mono ?_
                       rintro e x21 ⟨rfl,hb⟩
                       have hn8:=hn8.below hb hn8.lt
                       have hn9:=hn9.below hb hn9.lt
                       have h12:=h12.below hb h12.lt
                       have hB:=hB.trans (hb.mono hB.size)
                       clear hb
                       refine hK.out _ _ ⟨hn8,hn9,h12⟩ ?_
                       clear hK KK hHeld
                       intro hHeld
                       try simp only[Act.put,List.setIfInBounds_toArray,List.set_cons_zero,List.set_cons_succ,List.getElem_toArray,List.getElem_cons_zero,List.getElem_cons_succ]
                       refine tk 56 ⟨some 92,_,_,_,_,_⟩ ?_ hHeld ?_ ?_
                       rotate_left
                       ·(intro w9 hSw;(try dsimp only at hSw);go_simp)
                        all_goals with_reducible rfl
                       try simp only[Act.put,List.setIfInBounds_toArray,List.set_cons_zero,List.set_cons_succ]
                       refine tk 57 ⟨some 93,_,_,_,_,_⟩ ?_ hHeld ?_ ?_
                       rotate_left
                       ·(intro w9 hSw;(try dsimp only at hSw);go_simp)
                        all_goals with_reducible rfl
                       try simp only[Act.put,List.setIfInBounds_toArray,List.set_cons_zero,List.set_cons_succ]
                       refine tk 59 ⟨some 95,_,_,_,_,_⟩ ?_ hHeld ?_ ?_
                       rotate_left
                       ·(intro w9 hSw;refine yields34 (x:= .tmp 8) (g:=b8) (cs:=pcs (errV k)) ?_ ?_ rfl hSw.1<;>rfl)
                       try simp only[Act.put,List.setIfInBounds_toArray,List.set_cons_zero,List.set_cons_succ]
                       refine tk 60 ⟨some 96,_,_,_,_,_⟩ ?_ hHeld ?_ ?_
                       rotate_left
                       ·(intro w9 hSw;refine yields34 (x:= .tmp 9) (g:=b9) (cs:=pcs v) ?_ ?_ rfl hSw.2.1<;>rfl)
                       try simp only[Act.put,List.setIfInBounds_toArray,List.set_cons_zero,List.set_cons_succ]
                       refine tk 63 ⟨some 99,_,_,_,_,_⟩ ?_ hHeld ?_ ?_
                       rotate_left
                       ·(intro w9 hSw;refine yields34 (x:= .tmp 8) (g:=b8) (cs:=pcs (errV k)) ?_ ?_ rfl hSw.1<;>rfl)
                       try simp only[Act.put,List.setIfInBounds_toArray,List.set_cons_zero,List.set_cons_succ]
                       refine wpAnyH_ready (rs:= [58]) (by kernel_rfl) (by simp) ?_
                       refine(AllReadyH.cons (o:=⟨some 94,_,_,_,_,_⟩) rfl (fun KK hK=> ?_) AllReadyH.nil)
                       ·(try rw[if_pos (by rfl)])
                        go_simp
                        refine(HN1.out _).mono ?_
                        rintro e x22 ⟨rfl,hb⟩
                        have hn8:=hn8.below hb hn8.lt
                        have hn9:=hn9.below hb hn9.lt
                        have h12:=h12.below hb h12.lt
                        have hB:=hB.trans (hb.mono hB.size)
                        clear hb
                        refine hK.out _ _ ⟨hn8,hn9,h12⟩ ?_
                        clear hK KK hHeld
                        intro hHeld
                        try simp only[Act.put,List.setIfInBounds_toArray,List.set_cons_zero,List.set_cons_succ,List.getElem_toArray,List.getElem_cons_zero,List.getElem_cons_succ]
                        refine wpAnyH_ready (rs:= [61]) (by kernel_rfl) (by simp) ?_
                        refine(AllReadyH.cons (o:=⟨some 97,_,_,_,_,_⟩) rfl (fun KK hK=> ?_) AllReadyH.nil)
                        ·(try rw[if_pos (by rfl)])
                         refine op_bsl3 rfl rfl rfl rfl ?_
                         obtain⟨x23,hx23⟩:∃X,X=World.alloc x22 (.cells (vsC [numV (1,0),errV k,v]).toArray 39):=⟨_,rfl⟩
                         obtain⟨gA,hgA⟩:∃g,g=(x22).heap.size:=⟨_,rfl⟩
                         have hA:Els [numV (1,0),errV k,v] gA 0 x23:=by rw[hx23,hgA];exact els_new _ _
                         have hb:Below (x22).heap.size (x22) x23:=by rw[hx23];exact(Below.refl _ _).alloc (Nat.le_refl _) _
                         rw[←hx23,←hgA]
                         clear hx23 hgA
                         have hn8:=hn8.below hb hn8.lt
                         have hn9:=hn9.below hb hn9.lt
                         have h12:=h12.below hb h12.lt
                         have hB:=hB.trans (hb.mono hB.size)
                         clear hb
                         refine hK.out _ _ ⟨hn8,hn9,h12⟩ ?_
                         clear hK KK hHeld
                         intro hHeld
                         try simp only[Act.put,List.setIfInBounds_toArray,List.set_cons_zero,List.set_cons_succ]
                         refine wpAnyH_ready (rs:= [62]) (by kernel_rfl) (by simp) ?_
                         refine(AllReadyH.cons (o:=⟨some 98,_,_,_,_,_⟩) rfl (fun KK hK=> ?_) AllReadyH.nil)
                         ·(try rw[if_pos (by rfl)])
                          go_simp
                          refine(HSUM.out _ _ hB hA).mono ?_
                          rintro e x24 ⟨rfl,hb⟩
                          have hn8:=hn8.below hb hn8.lt
                          have hn9:=hn9.below hb hn9.lt
                          have h12:=h12.below hb h12.lt
                          have hB:=hB.trans (hb.mono hB.size)
                          clear hb hA
                          refine hK.out _ _ ⟨hn8,hn9,h12⟩ ?_
                          clear hK KK hHeld
                          intro hHeld
                          try simp only[Act.put,List.setIfInBounds_toArray,List.set_cons_zero,List.set_cons_succ,List.getElem_toArray,List.getElem_cons_zero,List.getElem_cons_succ]
                          refine wpAnyH_ready (rs:= [64]) (by kernel_rfl) (by simp) ?_
                          refine(AllReadyH.cons (o:=⟨some 100,_,_,_,_,_⟩) rfl (fun KK hK=> ?_) AllReadyH.nil)
                          ·(try rw[if_pos (by rfl)])
                           go_simp
                           refine(HSE.out _).mono ?_
                           rintro e x25 ⟨rfl,hb⟩
                           have hn8:=hn8.below hb hn8.lt
                           have hn9:=hn9.below hb hn9.lt
                           have h12:=h12.below hb h12.lt
                           have hB:=hB.trans (hb.mono hB.size)
                           clear hb
                           refine hK.out _ _ ⟨hn8,hn9,h12⟩ ?_
                           clear hK KK hHeld
                           intro hHeld
                           try simp only[Act.put,List.setIfInBounds_toArray,List.set_cons_zero,List.set_cons_succ,List.getElem_toArray,List.getElem_cons_zero,List.getElem_cons_succ]
                           refine tk 65 ⟨some 101,_,_,_,_,_⟩ ?_ hHeld ?_ ?_
                           rotate_left
                           ·(intro w9 hSw;(try dsimp only at hSw);go_simp)
                            all_goals with_reducible rfl
                           try simp only[Act.put,List.setIfInBounds_toArray,List.set_cons_zero,List.set_cons_succ]
                           refine tk 66 ⟨some 6,_,_,_,_,_⟩ ?_ hHeld ?_ ?_
                           rotate_left
                           ·(intro w9 hSw;(try dsimp only at hSw);go_simp)
                            all_goals with_reducible rfl
                           try simp only[Act.put,List.setIfInBounds_toArray,List.set_cons_zero,List.set_cons_succ]
                           refine wpAnyH_done (by kernel_rfl) ?_ _
                           try simp only[Act.put,List.setIfInBounds_toArray,List.set_cons_zero,List.set_cons_succ,List.getElem_toArray,List.getElem_cons_zero,List.getElem_cons_succ]
                           go_wp2_with fail
                           go_ret
                           exact⟨rfl,hB⟩
 ·have hNA:na=errV k:=by rw[HNA.out,if_neg hk7]
  go_upto_region 11 with (first|refine wpList_load34 rfl rfl rfl hn8 (by rfl) ?_|(refine wpList_store34 rfl rfl rfl rfl hn12 (by rfl) (pcs_one _) ?_;intro w7 hn7 hg7 hz7))
  have h12:World.vb w7 b12 (pcs na):=by rw[hNA];exact hn7
  have hB:=hB6.grown hg7 hB6.size (fun k9 hk9=>by cases hk9;exact hb12l)
  have hn8:=vb_but hn8 hg7 h128
  have hn9:=vb_but hn9 hg7 h129
  clear hn12 hB6 HNA hNA hn7 hg7 hz7 c84 hk7
  simp only[List.append_eq,List.cons_append,List.nil_append]
  refine wp_region_held_drew (S:=fun w9=>World.vb w9 b8 (pcs (errV k))∧World.vb w9 b9 (pcs v)∧World.vb w9 b12 (pcs na)) (by kernel_rfl) ⟨hn8,hn9,h12⟩ (fun hHeld=> ?_)
  refine tk 0 ⟨some 36,_,_,_,_,_⟩ ?_ hHeld ?_ ?_
  rotate_left
  ·(intro w9 hSw;(try dsimp only at hSw);go_simp)
   all_goals with_reducible rfl
  try simp only[Act.put,List.setIfInBounds_toArray,List.set_cons_zero,List.set_cons_succ]
  refine tk 1 ⟨some 37,_,_,_,_,_⟩ ?_ hHeld ?_ ?_
  rotate_left
  ·(intro w9 hSw;(try dsimp only at hSw);go_simp)
   all_goals with_reducible rfl
  try simp only[Act.put,List.setIfInBounds_toArray,List.set_cons_zero,List.set_cons_succ]
  refine tk 2 ⟨some 38,_,_,_,_,_⟩ ?_ hHeld ?_ ?_
  rotate_left
  ·(intro w9 hSw;(try dsimp only at hSw);go_simp)
   all_goals with_reducible rfl
  try simp only[Act.put,List.setIfInBounds_toArray,List.set_cons_zero,List.set_cons_succ]
  refine tk 3 ⟨some 39,_,_,_,_,_⟩ ?_ hHeld ?_ ?_
  rotate_left
  ·(intro w9 hSw;refine yields34 (x:= .tmp 8) (g:=b8) (cs:=pcs (errV k)) ?_ ?_ rfl hSw.1<;>rfl)
  try simp only[Act.put,List.setIfInBounds_toArray,List.set_cons_zero,List.set_cons_succ]
  refine tk 6 ⟨some 42,_,_,_,_,_⟩ ?_ hHeld ?_ ?_
  rotate_left
  ·(intro w9 hSw;refine yields34 (x:= .tmp 8) (g:=b8) (cs:=pcs (errV k)) ?_ ?_ rfl hSw.1<;>rfl)
  try simp only[Act.put,List.setIfInBounds_toArray,List.set_cons_zero,List.set_cons_succ]
  have hn8:=World.vb.drew hn8
  have hn9:=World.vb.drew hn9
  have h12:=World.vb.drew h12
  have hB:=hB.drew
  refine wpAnyH_ready (rs:= [4]) (by kernel_rfl) (by simp) ?_
  refine(AllReadyH.cons (o:=⟨some 40,_,_,_,_,_⟩) rfl (fun KK hK=> ?_) AllReadyH.nil)
  ·(try rw[if_pos (by rfl)])
   refine op_bsl1 rfl rfl ?_
   obtain⟨x1,hx1⟩:∃X,X=World.alloc w7.drew (.cells (vsC [errV k]).toArray 39):=⟨_,rfl⟩
   obtain⟨gA,hgA⟩:∃g,g=(w7.drew).heap.size:=⟨_,rfl⟩
   have hA:Els [errV k] gA 0 x1:=by rw[hx1,hgA];exact els_new _ _
   have hb:Below (w7.drew).heap.size (w7.drew) x1:=by rw[hx1];exact(Below.refl _ _).alloc (Nat.le_refl _) _
   rw[←hx1,←hgA]
   clear hx1 hgA
   have hn8:=hn8.below hb hn8.lt
   have hn9:=hn9.below hb hn9.lt
   have h12:=h12.below hb h12.lt
   have hB:=hB.trans (hb.mono hB.size)
   clear hb
   refine hK.out _ _ ⟨hn8,hn9,h12⟩ ?_
   clear hK KK hHeld
   intro hHeld
   try simp only[Act.put,List.setIfInBounds_toArray,List.set_cons_zero,List.set_cons_succ]
   refine wpAnyH_ready (rs:= [5]) (by kernel_rfl) (by simp) ?_
   refine(AllReadyH.cons (o:=⟨some 41,_,_,_,_,_⟩) rfl (fun KK hK=> ?_) AllReadyH.nil)
   ·(try rw[if_pos (by rfl)])
    go_simp
    refine(HF.out _ _ hB hA).mono ?_
    rintro e x2 ⟨rfl,hb⟩
    have hn8:=hn8.below hb hn8.lt
    have hn9:=hn9.below hb hn9.lt
    have h12:=h12.below hb h12.lt
    have hB:=hB.trans (hb.mono hB.size)
    clear hb hA
    refine hK.out _ _ ⟨hn8,hn9,h12⟩ ?_
    clear hK KK hHeld
    intro hHeld
    try simp only[Act.put,List.setIfInBounds_toArray,List.set_cons_zero,List.set_cons_succ,List.getElem_toArray,List.getElem_cons_zero,List.getElem_cons_succ]
    refine wpAnyH_ready (rs:= [7]) (by kernel_rfl) (by simp) ?_
    refine(AllReadyH.cons (o:=⟨some 43,_,_,_,_,_⟩) rfl (fun KK hK=> ?_) AllReadyH.nil)
    ·(try rw[if_pos (by rfl)])
     go_simp
     refine(HSE.out _).mono ?_
     rintro e x3 ⟨rfl,hb⟩
     have hn8:=hn8.below hb hn8.lt
     have hn9:=hn9.below hb hn9.lt
     have h12:=h12.below hb h12.lt
     have hB:=hB.trans (hb.mono hB.size)
     clear hb
     refine hK.out _ _ ⟨hn8,hn9,h12⟩ ?_
     clear hK KK hHeld
     intro hHeld
     try simp only[Act.put,List.setIfInBounds_toArray,List.set_cons_zero,List.set_cons_succ,List.getElem_toArray,List.getElem_cons_zero,List.getElem_cons_succ]
     refine tk 8 ⟨some 44,_,_,_,_,_⟩ ?_ hHeld ?_ ?_
     rotate_left
     ·(intro w9 hSw;(try dsimp only at hSw);go_simp)
      all_goals with_reducible rfl
     try simp only[Act.put,List.setIfInBounds_toArray,List.set_cons_zero,List.set_cons_succ]
     refine tk 9 ⟨some 45,_,_,_,_,_⟩ ?_ hHeld ?_ ?_
     rotate_left
     ·(intro w9 hSw;(try dsimp only at hSw);go_simp)
      all_goals with_reducible rfl
     try simp only[Act.put,List.setIfInBounds_toArray,List.set_cons_zero,List.set_cons_succ]
     refine tk 10 ⟨some 46,_,_,_,_,_⟩ ?_ hHeld ?_ ?_
     rotate_left
     ·(intro w9 hSw;refine yields34 (x:= .tmp 8) (g:=b8) (cs:=pcs (errV k)) ?_ ?_ rfl hSw.1<;>rfl)
     try simp only[Act.put,List.setIfInBounds_toArray,List.set_cons_zero,List.set_cons_succ]
     refine tk 11 ⟨some 47,_,_,_,_,_⟩ ?_ hHeld ?_ ?_
     rotate_left
     ·(intro w9 hSw;refine yields34 (x:= .tmp 9) (g:=b9) (cs:=pcs v) ?_ ?_ rfl hSw.2.1<;>rfl)
     try simp only[Act.put,List.setIfInBounds_toArray,List.set_cons_zero,List.set_cons_succ]
     refine tk 14 ⟨some 50,_,_,_,_,_⟩ ?_ hHeld ?_ ?_
     rotate_left
     ·(intro w9 hSw;refine yields34 (x:= .tmp 9) (g:=b9) (cs:=pcs v) ?_ ?_ rfl hSw.2.1<;>rfl)
     try simp only[Act.put,List.setIfInBounds_toArray,List.set_cons_zero,List.set_cons_succ]
     refine wpAnyH_ready (rs:= [12]) (by kernel_rfl) (by simp) ?_
     refine(AllReadyH.cons (o:=⟨some 48,_,_,_,_,_⟩) rfl (fun KK hK=> ?_) AllReadyH.nil)
     ·(try rw[if_pos (by rfl)])
      refine op_bsl2 rfl rfl rfl ?_
      obtain⟨x4,hx4⟩:∃X,X=World.alloc x3 (.cells (vsC [errV k,v]).toArray 39):=⟨_,rfl⟩
      obtain⟨gA,hgA⟩:∃g,g=(x3).heap.size:=⟨_,rfl⟩
      have hA:Els [errV k,v] gA 0 x4:=by rw[hx4,hgA];exact els_new _ _
      have hb:Below (x3).heap.size (x3) x4:=by rw[hx4];exact(Below.refl _ _).alloc (Nat.le_refl _) _
      rw[←hx4,←hgA]
      clear hx4 hgA
      have hn8:=hn8.below hb hn8.lt
      have hn9:=hn9.below hb hn9.lt
      have h12:=h12.below hb h12.lt
      have hB:=hB.trans (hb.mono hB.size)
      clear hb
      refine hK.out _ _ ⟨hn8,hn9,h12⟩ ?_
      clear hK KK hHeld
      intro hHeld
      try simp only[Act.put,List.setIfInBounds_toArray,List.set_cons_zero,List.set_cons_succ]
      refine wpAnyH_ready (rs:= [13]) (by kernel_rfl) (by simp) ?_
      refine(AllReadyH.cons (o:=⟨some 49,_,_,_,_,_⟩) rfl (fun KK hK=> ?_) AllReadyH.nil)
      ·(try rw[if_pos (by rfl)])
       go_simp
       refine(HIFERROR.out _ _ hB hA).mono ?_
       rintro e x5 ⟨rfl,hb⟩
       have hn8:=hn8.below hb hn8.lt
       have hn9:=hn9.below hb hn9.lt
       have h12:=h12.below hb h12.lt
       have hB:=hB.trans (hb.mono hB.size)
       clear hb hA
       refine hK.out _ _ ⟨hn8,hn9,h12⟩ ?_
       clear hK KK hHeld
       intro hHeld
       try simp only[Act.put,List.setIfInBounds_toArray,List.set_cons_zero,List.set_cons_succ,List.getElem_toArray,List.getElem_cons_zero,List.getElem_cons_succ]
       refine wpAnyH_ready (rs:= [15]) (by kernel_rfl) (by simp) ?_
       refine(AllReadyH.cons (o:=⟨some 51,_,_,_,_,_⟩) rfl (fun KK hK=> ?_) AllReadyH.nil)
       ·(try rw[if_pos (by rfl)])
        go_simp
        refine(HSV.out _).mono ?_
        rintro e x6 ⟨rfl,hb⟩
        have hn8:=hn8.below hb hn8.lt
        have hn9:=hn9.below hb hn9.lt
        have h12:=h12.below hb h12.lt
        have hB:=hB.trans (hb.mono hB.size)
        clear hb
        refine hK.out _ _ ⟨hn8,hn9,h12⟩ ?_
        clear hK KK hHeld
        intro hHeld
        try simp only[Act.put,List.setIfInBounds_toArray,List.set_cons_zero,List.set_cons_succ,List.getElem_toArray,List.getElem_cons_zero,List.getElem_cons_succ]
        refine tk 16 ⟨some 52,_,_,_,_,_⟩ ?_ hHeld ?_ ?_
        rotate_left
        ·(intro w9 hSw;(try dsimp only at hSw);go_simp)
         all_goals with_reducible rfl
        try simp only[Act.put,List.setIfInBounds_toArray,List.set_cons_zero,List.set_cons_succ]
        refine tk 17 ⟨some 53,_,_,_,_,_⟩ ?_ hHeld ?_ ?_
        rotate_left
        ·(intro w9 hSw;(try dsimp only at hSw);go_simp)
         all_goals with_reducible rfl
        try simp only[Act.put,List.setIfInBounds_toArray,List.set_cons_zero,List.set_cons_succ]
        refine tk 18 ⟨some 54,_,_,_,_,_⟩ ?_ hHeld ?_ ?_
        rotate_left
        ·(intro w9 hSw;refine yields34 (x:= .tmp 8) (g:=b8) (cs:=pcs (errV k)) ?_ ?_ rfl hSw.1<;>rfl)
        try simp only[Act.put,List.setIfInBounds_toArray,List.set_cons_zero,List.set_cons_succ]
        refine tk 19 ⟨some 55,_,_,_,_,_⟩ ?_ hHeld ?_ ?_
        rotate_left
        ·(intro w9 hSw;refine yields34 (x:= .tmp 9) (g:=b9) (cs:=pcs v) ?_ ?_ rfl hSw.2.1<;>rfl)
        try simp only[Act.put,List.setIfInBounds_toArray,List.set_cons_zero,List.set_cons_succ]
        refine tk 22 ⟨some 58,_,_,_,_,_⟩ ?_ hHeld ?_ ?_
        rotate_left
        ·(intro w9 hSw;refine yields34 (x:= .tmp 12) (g:=b12) (cs:=pcs na) ?_ ?_ rfl hSw.2.2<;>rfl)
        try simp only[Act.put,List.setIfInBounds_toArray,List.set_cons_zero,List.set_cons_succ]
        refine wpAnyH_ready (rs:= [20]) (by kernel_rfl) (by simp) ?_
        refine(AllReadyH.cons (o:=⟨some 56,_,_,_,_,_⟩) rfl (fun KK hK=> ?_) AllReadyH.nil)
        ·(try rw[if_pos (by rfl)])
         refine op_bsl2 rfl rfl rfl ?_
         obtain⟨x7,hx7⟩:∃X,X=World.alloc x6 (.cells (vsC [errV k,v]).toArray 39):=⟨_,rfl⟩
         obtain⟨gA,hgA⟩:∃g,g=(x6).heap.size:=⟨_,rfl⟩
         have hA:Els [errV k,v] gA 0 x7:=by rw[hx7,hgA];exact els_new _ _
         have hb:Below (x6).heap.size (x6) x7:=by rw[hx7];exact(Below.refl _ _).alloc (Nat.le_refl _) _
         rw[←hx7,←hgA]
         clear hx7 hgA
         have hn8:=hn8.below hb hn8.lt
         have hn9:=hn9.below hb hn9.lt
         have h12:=h12.below hb h12.lt
         have hB:=hB.trans (hb.mono hB.size)
         clear hb
         refine hK.out _ _ ⟨hn8,hn9,h12⟩ ?_
         clear hK KK hHeld
         intro hHeld
         try simp only[Act.put,List.setIfInBounds_toArray,List.set_cons_zero,List.set_cons_succ]
         refine wpAnyH_ready (rs:= [21]) (by kernel_rfl) (by simp) ?_
         refine(AllReadyH.cons (o:=⟨some 57,_,_,_,_,_⟩) rfl (fun KK hK=> ?_) AllReadyH.nil)
         ·(try rw[if_pos (by rfl)])
          go_simp
          refine(HIFNA.out _ _ hB hA).mono ?_
          rintro e x8 ⟨rfl,hb⟩
          have hn8:=hn8.below hb hn8.lt
          have hn9:=hn9.below hb hn9.lt
          have h12:=h12.below hb h12.lt
          have hB:=hB.trans (hb.mono hB.size)
          clear hb hA
          refine hK.out _ _ ⟨hn8,hn9,h12⟩ ?_
          clear hK KK hHeld
          intro hHeld
          try simp only[Act.put,List.setIfInBounds_toArray,List.set_cons_zero,List.set_cons_succ,List.getElem_toArray,List.getElem_cons_zero,List.getElem_cons_succ]
          refine wpAnyH_ready (rs:= [23]) (by kernel_rfl) (by simp) ?_
          refine(AllReadyH.cons (o:=⟨some 59,_,_,_,_,_⟩) rfl (fun KK hK=> ?_) AllReadyH.nil)
          ·(try rw[if_pos (by rfl)])
           go_simp
           refine(HSN.out _).mono ?_
           rintro e x9 ⟨rfl,hb⟩
           have hn8:=hn8.below hb hn8.lt
           have hn9:=hn9.below hb hn9.lt
           have h12:=h12.below hb h12.lt
           have hB:=hB.trans (hb.mono hB.size)
           clear hb
           refine hK.out _ _ ⟨hn8,hn9,h12⟩ ?_
           clear hK KK hHeld
           intro hHeld
           try simp only[Act.put,List.setIfInBounds_toArray,List.set_cons_zero,List.set_cons_succ,List.getElem_toArray,List.getElem_cons_zero,List.getElem_cons_succ]
           refine tk 24 ⟨some 60,_,_,_,_,_⟩ ?_ hHeld ?_ ?_
           rotate_left
           ·(intro w9 hSw;(try dsimp only at hSw);go_simp)
            all_goals with_reducible rfl
           try simp only[Act.put,List.setIfInBounds_toArray,List.set_cons_zero,List.set_cons_succ]
           refine tk 25 ⟨some 61,_,_,_,_,_⟩ ?_ hHeld ?_ ?_
           rotate_left
           ·(intro w9 hSw;(try dsimp only at hSw);go_simp)
            all_goals with_reducible rfl
           try simp only[Act.put,List.setIfInBounds_toArray,List.set_cons_zero,List.set_cons_succ]
           refine tk 26 ⟨some 62,_,_,_,_,_⟩ ?_ hHeld ?_ ?_
           rotate_left
           ·(intro w9 hSw;refine yields34 (x:= .tmp 8) (g:=b8) (cs:=pcs (errV k)) ?_ ?_ rfl hSw.1<;>rfl)
           try simp only[Act.put,List.setIfInBounds_toArray,List.set_cons_zero,List.set_cons_succ]
           refine tk 29 ⟨some 65,_,_,_,_,_⟩ ?_ hHeld ?_ ?_
           rotate_left
           ·(intro w9 hSw;refine yields_tr (b:=true) ?_ trivial<;>rfl)
           try simp only[Act.put,List.setIfInBounds_toArray,List.set_cons_zero,List.set_cons_succ]
           refine wpAnyH_ready (rs:= [27]) (by kernel_rfl) (by simp) ?_
           refine(AllReadyH.cons (o:=⟨some 63,_,_,_,_,_⟩) rfl (fun KK hK=> ?_) AllReadyH.nil)
           ·(try rw[if_pos (by rfl)])
            refine op_bsl1 rfl rfl ?_
            obtain⟨x10,hx10⟩:∃X,X=World.alloc x9 (.cells (vsC [errV k]).toArray 39):=⟨_,rfl⟩
            obtain⟨gA,hgA⟩:∃g,g=(x9).heap.size:=⟨_,rfl⟩
            have hA:Els [errV k] gA 0 x10:=by rw[hx10,hgA];exact els_new _ _
            have hb:Below (x9).heap.size (x9) x10:=by rw[hx10];exact(Below.refl _ _).alloc (Nat.le_refl _) _
            rw[←hx10,←hgA]
            clear hx10 hgA
            have hn8:=hn8.below hb hn8.lt
            have hn9:=hn9.below hb hn9.lt
            have h12:=h12.below hb h12.lt
            have hB:=hB.trans (hb.mono hB.size)
            clear hb
            refine hK.out _ _ ⟨hn8,hn9,h12⟩ ?_
            clear hK KK hHeld
            intro hHeld
            try simp only[Act.put,List.setIfInBounds_toArray,List.set_cons_zero,List.set_cons_succ]
            refine wpAnyH_ready (rs:= [28]) (by kernel_rfl) (by simp) ?_
            refine(AllReadyH.cons (o:=⟨some 64,_,_,_,_,_⟩) rfl (fun KK hK=> ?_) AllReadyH.nil)
            ·(try rw[if_pos (by rfl)])
             go_simp
             refine(HISERROR.out _ _ hB hA).mono ?_
             rintro e x11 ⟨rfl,hb⟩
             have hn8:=hn8.below hb hn8.lt
             have hn9:=hn9.below hb hn9.lt
             have h12:=h12.below hb h12.lt
             have hB:=hB.trans (hb.mono hB.size)
             clear hb hA
             refine hK.out _ _ ⟨hn8,hn9,h12⟩ ?_
             clear hK KK hHeld
             intro hHeld
             try simp only[Act.put,List.setIfInBounds_toArray,List.set_cons_zero,List.set_cons_succ,List.getElem_toArray,List.getElem_cons_zero,List.getElem_cons_succ]
             refine wpAnyH_ready (rs:= [30]) (by kernel_rfl) (by simp) ?_
             refine(AllReadyH.cons (o:=⟨some 66,_,_,_,_,_⟩) rfl (fun KK hK=> ?_) AllReadyH.nil)
             ·(try rw[if_pos (by rfl)])
              go_simp
              refine(HST.out _).mono ?_
              rintro e x12 ⟨rfl,hb⟩
              have hn8:=hn8.below hb hn8.lt
              have hn9:=hn9.below hb hn9.lt
              have h12:=h12.below hb h12.lt
              have hB:=hB.trans (hb.mono hB.size)
              clear hb
              refine hK.out _ _ ⟨hn8,hn9,h12⟩ ?_
              clear hK KK hHeld
              intro hHeld
              try simp only[Act.put,List.setIfInBounds_toArray,List.set_cons_zero,List.set_cons_succ,List.getElem_toArray,List.getElem_cons_zero,List.getElem_cons_succ]
              refine tk 31 ⟨some 67,_,_,_,_,_⟩ ?_ hHeld ?_ ?_
              rotate_left
              ·(intro w9 hSw;(try dsimp only at hSw);go_simp)
               all_goals with_reducible rfl
              try simp only[Act.put,List.setIfInBounds_toArray,List.set_cons_zero,List.set_cons_succ]
              refine tk 32 ⟨some 68,_,_,_,_,_⟩ ?_ hHeld ?_ ?_
              rotate_left
              ·(intro w9 hSw;(try dsimp only at hSw);go_simp)
               all_goals with_reducible rfl
              try simp only[Act.put,List.setIfInBounds_toArray,List.set_cons_zero,List.set_cons_succ]
              refine tk 33 ⟨some 69,_,_,_,_,_⟩ ?_ hHeld ?_ ?_
              rotate_left
              ·(intro w9 hSw;refine yields34 (x:= .tmp 8) (g:=b8) (cs:=pcs (errV k)) ?_ ?_ rfl hSw.1<;>rfl)
              try simp only[Act.put,List.setIfInBounds_toArray,List.set_cons_zero,List.set_cons_succ]
              refine tk 34 ⟨some 70,_,_,_,_,_⟩ ?_ hHeld ?_ ?_
              rotate_left
              ·(intro w9 hSw;refine yields34 (x:= .tmp 9) (g:=b9) (cs:=pcs v) ?_ ?_ rfl hSw.2.1<;>rfl)
              try simp only[Act.put,List.setIfInBounds_toArray,List.set_cons_zero,List.set_cons_succ]
              refine tk 35 ⟨some 71,_,_,_,_,_⟩ ?_ hHeld ?_ ?_
              rotate_left
              ·(intro w9 hSw;refine yields34 (x:= .tmp 9) (g:=b9) (cs:=pcs v) ?_ ?_ rfl hSw.2.1<;>rfl)
              try simp only[Act.put,List.setIfInBounds_toArray,List.set_cons_zero,List.set_cons_succ]
              refine tk 38 ⟨some 74,_,_,_,_,_⟩ ?_ hHeld ?_ ?_
              rotate_left
              ·(intro w9 hSw;refine yields34 (x:= .tmp 8) (g:=b8) (cs:=pcs (errV k)) ?_ ?_ rfl hSw.1<;>rfl)
              try simp only[Act.put,List.setIfInBounds_toArray,List.set_cons_zero,List.set_cons_succ]
              refine wpAnyH_ready (rs:= [36]) (by kernel_rfl) (by simp) ?_
              refine(AllReadyH.cons (o:=⟨some 72,_,_,_,_,_⟩) rfl (fun KK hK=> ?_) AllReadyH.nil)
              ·(try rw[if_pos (by rfl)])
               refine op_bsl3 rfl rfl rfl rfl ?_
               obtain⟨x13,hx13⟩:∃X,X=World.alloc x12 (.cells (vsC [errV k,v,v]).toArray 39):=⟨_,rfl⟩
               obtain⟨gA,hgA⟩:∃g,g=(x12).heap.size:=⟨_,rfl⟩
               have hA:Els [errV k,v,v] gA 0 x13:=by rw[hx13,hgA];exact els_new _ _
               have hb:Below (x12).heap.size (x12) x13:=by rw[hx13];exact(Below.refl _ _).alloc (Nat.le_refl _) _
               rw[←hx13,←hgA]
               clear hx13 hgA
               have hn8:=hn8.below hb hn8.lt
               have hn9:=hn9.below hb hn9.lt
               have h12:=h12.below hb h12.lt
               have hB:=hB.trans (hb.mono hB.size)
               clear hb
               refine hK.out _ _ ⟨hn8,hn9,h12⟩ ?_
               clear hK KK hHeld
               intro hHeld
               try simp only[Act.put,List.setIfInBounds_toArray,List.set_cons_zero,List.set_cons_succ]
               refine wpAnyH_ready (rs:= [37]) (by kernel_rfl) (by simp) ?_
               refine(AllReadyH.cons (o:=⟨some 73,_,_,_,_,_⟩) rfl (fun KK hK=> ?_) AllReadyH.nil)
               ·(try rw[if_pos (by rfl)])
                go_simp
                refine(HIF.out _ _ hB hA).mono ?_
                rintro e x14 ⟨rfl,hb⟩
                have hn8:=hn8.below hb hn8.lt
                have hn9:=hn9.below hb hn9.lt
                have h12:=h12.below hb h12.lt
                have hB:=hB.trans (hb.mono hB.size)
                clear hb hA
                refine hK.out _ _ ⟨hn8,hn9,h12⟩ ?_
                clear hK KK hHeld
                intro hHeld
                try simp only[Act.put,List.setIfInBounds_toArray,List.set_cons_zero,List.set_cons_succ,List.getElem_toArray,List.getElem_cons_zero,List.getElem_cons_succ]
                refine wpAnyH_ready (rs:= [39]) (by kernel_rfl) (by simp) ?_
                refine(AllReadyH.cons (o:=⟨some 75,_,_,_,_,_⟩) rfl (fun KK hK=> ?_) AllReadyH.nil)
                ·(try rw[if_pos (by rfl)])
                 go_simp
                 refine(HSE.out _).mono ?_
                 rintro e x15 ⟨rfl,hb⟩
                 have hn8:=hn8.below hb hn8.lt
                 have hn9:=hn9.below hb hn9.lt
                 have h12:=h12.below hb h12.lt
                 have hB:=hB.trans (hb.mono hB.size)
                 clear hb
                 refine hK.out _ _ ⟨hn8,hn9,h12⟩ ?_
                 clear hK KK hHeld
                 intro hHeld
                 try simp only[Act.put,List.setIfInBounds_toArray,List.set_cons_zero,List.set_cons_succ,List.getElem_toArray,List.getElem_cons_zero,List.getElem_cons_succ]
                 refine tk 40 ⟨some 76,_,_,_,_,_⟩ ?_ hHeld ?_ ?_
                 rotate_left
                 ·(intro w9 hSw;(try dsimp only at hSw);go_simp)
                  all_goals with_reducible rfl
                 try simp only[Act.put,List.setIfInBounds_toArray,List.set_cons_zero,List.set_cons_succ]
                 refine tk 41 ⟨some 77,_,_,_,_,_⟩ ?_ hHeld ?_ ?_
                 rotate_left
                 ·(intro w9 hSw;(try dsimp only at hSw);go_simp)
                  all_goals with_reducible rfl
                 try simp only[Act.put,List.setIfInBounds_toArray,List.set_cons_zero,List.set_cons_succ]
                 refine tk 42 ⟨some 78,_,_,_,_,_⟩ ?_ hHeld ?_ ?_
                 rotate_left
                 ·(intro w9 hSw;refine yields34 (x:= .tmp 8) (g:=b8) (cs:=pcs (errV k)) ?_ ?_ rfl hSw.1<;>rfl)
                 try simp only[Act.put,List.setIfInBounds_toArray,List.set_cons_zero,List.set_cons_succ]
                 refine tk 43 ⟨some 79,_,_,_,_,_⟩ ?_ hHeld ?_ ?_
                 rotate_left
                 ·(intro w9 hSw;refine yields34 (x:= .tmp 9) (g:=b9) (cs:=pcs v) ?_ ?_ rfl hSw.2.1<;>rfl)
                 try simp only[Act.put,List.setIfInBounds_toArray,List.set_cons_zero,List.set_cons_succ]
                 refine tk 46 ⟨some 82,_,_,_,_,_⟩ ?_ hHeld ?_ ?_
                 rotate_left
                 ·(intro w9 hSw;refine yields34 (x:= .tmp 8) (g:=b8) (cs:=pcs (errV k)) ?_ ?_ rfl hSw.1<;>rfl)
                 try simp only[Act.put,List.setIfInBounds_toArray,List.set_cons_zero,List.set_cons_succ]
                 refine wpAnyH_ready (rs:= [44]) (by kernel_rfl) (by simp) ?_
                 refine(AllReadyH.cons (o:=⟨some 80,_,_,_,_,_⟩) rfl (fun KK hK=> ?_) AllReadyH.nil)
                 ·(try rw[if_pos (by rfl)])
                  refine op_bsl2 rfl rfl rfl ?_
                  obtain⟨x16,hx16⟩:∃X,X=World.alloc x15 (.cells (vsC [errV k,v]).toArray 39):=⟨_,rfl⟩
                  obtain⟨gA,hgA⟩:∃g,g=(x15).heap.size:=⟨_,rfl⟩
                  have hA:Els [errV k,v] gA 0 x16:=by rw[hx16,hgA];exact els_new _ _
                  have hb:Below (x15).heap.size (x15) x16:=by rw[hx16];exact(Below.refl _ _).alloc (Nat.le_refl _) _
                  rw[←hx16,←hgA]
                  clear hx16 hgA
                  have hn8:=hn8.below hb hn8.lt
                  have hn9:=hn9.below hb hn9.lt
                  have h12:=h12.below hb h12.lt
                  have hB:=hB.trans (hb.mono hB.size)
                  clear hb
                  refine hK.out _ _ ⟨hn8,hn9,h12⟩ ?_
                  clear hK KK hHeld
                  intro hHeld
                  try simp only[Act.put,List.setIfInBounds_toArray,List.set_cons_zero,List.set_cons_succ]
                  refine wpAnyH_ready (rs:= [45]) (by kernel_rfl) (by simp) ?_
                  refine(AllReadyH.cons (o:=⟨some 81,_,_,_,_,_⟩) rfl (fun KK hK=> ?_) AllReadyH.nil)
                  ·(try rw[if_pos (by rfl)])
                   go_simp
                   refine(HROUND.out _ _ hB hA).mono ?_
                   rintro e x17 ⟨rfl,hb⟩
                   have hn8:=hn8.below hb hn8.lt
                   have hn9:=hn9.below hb hn9.lt
                   have h12:=h12.below hb h12.lt
                   have hB:=hB.trans (hb.mono hB.size)
                   clear hb hA
                   refine hK.out _ _ ⟨hn8,hn9,h12⟩ ?_
                   clear hK KK hHeld
                   intro hHeld
                   try simp only[Act.put,List.setIfInBounds_toArray,List.set_cons_zero,List.set_cons_succ,List.getElem_toArray,List.getElem_cons_zero,List.getElem_cons_succ]
                   refine wpAnyH_ready (rs:= [47]) (by kernel_rfl) (by simp) ?_
                   refine(AllReadyH.cons (o:=⟨some 83,_,_,_,_,_⟩) rfl (fun KK hK=> ?_) AllReadyH.nil)
                   ·(try rw[if_pos (by rfl)])
                    go_simp
                    refine(HSE.out _).mono ?_
                    rintro e x18 ⟨rfl,hb⟩
                    have hn8:=hn8.below hb hn8.lt
                    have hn9:=hn9.below hb hn9.lt
                    have h12:=h12.below hb h12.lt
                    have hB:=hB.trans (hb.mono hB.size)
                    clear hb
                    refine hK.out _ _ ⟨hn8,hn9,h12⟩ ?_
                    clear hK KK hHeld
                    intro hHeld
                    try simp only[Act.put,List.setIfInBounds_toArray,List.set_cons_zero,List.set_cons_succ,List.getElem_toArray,List.getElem_cons_zero,List.getElem_cons_succ]
                    refine tk 48 ⟨some 84,_,_,_,_,_⟩ ?_ hHeld ?_ ?_
                    rotate_left
                    ·(intro w9 hSw;(try dsimp only at hSw);go_simp)
                     all_goals with_reducible rfl
                    try simp only[Act.put,List.setIfInBounds_toArray,List.set_cons_zero,List.set_cons_succ]
                    refine tk 49 ⟨some 85,_,_,_,_,_⟩ ?_ hHeld ?_ ?_
                    rotate_left
                    ·(intro w9 hSw;(try dsimp only at hSw);go_simp)
                     all_goals with_reducible rfl
                    try simp only[Act.put,List.setIfInBounds_toArray,List.set_cons_zero,List.set_cons_succ]
                    refine tk 50 ⟨some 86,_,_,_,_,_⟩ ?_ hHeld ?_ ?_
                    rotate_left
                    ·(intro w9 hSw;refine yields34 (x:= .tmp 8) (g:=b8) (cs:=pcs (errV k)) ?_ ?_ rfl hSw.1<;>rfl)
                    try simp only[Act.put,List.setIfInBounds_toArray,List.set_cons_zero,List.set_cons_succ]
                    refine tk 51 ⟨some 87,_,_,_,_,_⟩ ?_ hHeld ?_ ?_
                    rotate_left
                    ·(intro w9 hSw;refine yields34 (x:= .tmp 9) (g:=b9) (cs:=pcs v) ?_ ?_ rfl hSw.2.1<;>rfl)
                    try simp only[Act.put,List.setIfInBounds_toArray,List.set_cons_zero,List.set_cons_succ]
                    refine tk 54 ⟨some 90,_,_,_,_,_⟩ ?_ hHeld ?_ ?_
                    rotate_left
                    ·(intro w9 hSw;refine yields34 (x:= .tmp 8) (g:=b8) (cs:=pcs (errV k)) ?_ ?_ rfl hSw.1<;>rfl)
                    try simp only[Act.put,List.setIfInBounds_toArray,List.set_cons_zero,List.set_cons_succ]
                    refine wpAnyH_ready (rs:= [52]) (by kernel_rfl) (by simp) ?_
                    refine(AllReadyH.cons (o:=⟨some 88,_,_,_,_,_⟩) rfl (fun KK hK=> ?_) AllReadyH.nil)
                    ·(try rw[if_pos (by rfl)])
                     refine op_bsl2 rfl rfl rfl ?_
                     obtain⟨x19,hx19⟩:∃X,X=World.alloc x18 (.cells (vsC [errV k,v]).toArray 39):=⟨_,rfl⟩
                     obtain⟨gA,hgA⟩:∃g,g=(x18).heap.size:=⟨_,rfl⟩
                     have hA:Els [errV k,v] gA 0 x19:=by rw[hx19,hgA];exact els_new _ _
                     have hb:Below (x18).heap.size (x18) x19:=by rw[hx19];exact(Below.refl _ _).alloc (Nat.le_refl _) _
                     rw[←hx19,←hgA]
                     clear hx19 hgA
                     have hn8:=hn8.below hb hn8.lt
                     have hn9:=hn9.below hb hn9.lt
                     have h12:=h12.below hb h12.lt
                     have hB:=hB.trans (hb.mono hB.size)
                     clear hb
                     refine hK.out _ _ ⟨hn8,hn9,h12⟩ ?_
                     clear hK KK hHeld
                     intro hHeld
                     try simp only[Act.put,List.setIfInBounds_toArray,List.set_cons_zero,List.set_cons_succ]
                     refine wpAnyH_ready (rs:= [53]) (by kernel_rfl) (by simp) ?_
                     refine(AllReadyH.cons (o:=⟨some 89,_,_,_,_,_⟩) rfl (fun KK hK=> ?_) AllReadyH.nil)
                     ·(try rw[if_pos (by rfl)])
                      go_simp
                      refine(HMATCH.out _ _ hB hA).mono ?_
                      rintro e x20 ⟨rfl,hb⟩
                      have hn8:=hn8.below hb hn8.lt
                      have hn9:=hn9.below hb hn9.lt
                      have h12:=h12.below hb h12.lt
                      have hB:=hB.trans (hb.mono hB.size)
                      clear hb hA
                      refine hK.out _ _ ⟨hn8,hn9,h12⟩ ?_
                      clear hK KK hHeld
                      intro hHeld
                      try simp only[Act.put,List.setIfInBounds_toArray,List.set_cons_zero,List.set_cons_succ,List.getElem_toArray,List.getElem_cons_zero,List.getElem_cons_succ]
                      refine wpAnyH_ready (rs:= [55]) (by kernel_rfl) (by simp) ?_
                      refine(AllReadyH.cons (o:=⟨some 91,_,_,_,_,_⟩) rfl (fun KK hK=> ?_) AllReadyH.nil)
                      ·(try rw[if_pos (by rfl)])
                       go_simp
                       refine(HSE.out _).mono ?_
                       rintro e x21 ⟨rfl,hb⟩
                       have hn8:=hn8.below hb hn8.lt
                       have hn9:=hn9.below hb hn9.lt
                       have h12:=h12.below hb h12.lt
                       have hB:=hB.trans (hb.mono hB.size)
                       clear hb
                       refine hK.out _ _ ⟨hn8,hn9,h12⟩ ?_
                       clear hK KK hHeld
                       intro hHeld
                       try simp only[Act.put,List.setIfInBounds_toArray,List.set_cons_zero,List.set_cons_succ,List.getElem_toArray,List.getElem_cons_zero,List.getElem_cons_succ]
                       refine tk 56 ⟨some 92,_,_,_,_,_⟩ ?_ hHeld ?_ ?_
                       rotate_left
                       ·(intro w9 hSw;(try dsimp only at hSw);go_simp)
                        all_goals with_reducible rfl
                       try simp only[Act.put,List.setIfInBounds_toArray,List.set_cons_zero,List.set_cons_succ]
                       refine tk 57 ⟨some 93,_,_,_,_,_⟩ ?_ hHeld ?_ ?_
                       rotate_left
                       ·(intro w9 hSw;(try dsimp only at hSw);go_simp)
                        all_goals with_reducible rfl
                       try simp only[Act.put,List.setIfInBounds_toArray,List.set_cons_zero,List.set_cons_succ]
                       refine tk 59 ⟨some 95,_,_,_,_,_⟩ ?_ hHeld ?_ ?_
                       rotate_left
                       ·(intro w9 hSw;refine yields34 (x:= .tmp 8) (g:=b8) (cs:=pcs (errV k)) ?_ ?_ rfl hSw.1<;>rfl)
                       try simp only[Act.put,List.setIfInBounds_toArray,List.set_cons_zero,List.set_cons_succ]
                       refine tk 60 ⟨some 96,_,_,_,_,_⟩ ?_ hHeld ?_ ?_
                       rotate_left
                       ·(intro w9 hSw;refine yields34 (x:= .tmp 9) (g:=b9) (cs:=pcs v) ?_ ?_ rfl hSw.2.1<;>rfl)
                       try simp only[Act.put,List.setIfInBounds_toArray,List.set_cons_zero,List.set_cons_succ]
                       refine tk 63 ⟨some 99,_,_,_,_,_⟩ ?_ hHeld ?_ ?_
                       rotate_left
                       ·(intro w9 hSw;refine yields34 (x:= .tmp 8) (g:=b8) (cs:=pcs (errV k)) ?_ ?_ rfl hSw.1<;>rfl)
                       try simp only[Act.put,List.setIfInBounds_toArray,List.set_cons_zero,List.set_cons_succ]
                       refine wpAnyH_ready (rs:= [58]) (by kernel_rfl) (by simp) ?_
                       refine(AllReadyH.cons (o:=⟨some 94,_,_,_,_,_⟩) rfl (fun KK hK=> ?_) AllReadyH.nil)
                       ·(try rw[if_pos (by rfl)])
                        go_simp
                        refine(HN1.out _).mono ?_
                        rintro e x22 ⟨rfl,hb⟩
                        have hn8:=hn8.below hb hn8.lt
                        have hn9:=hn9.below hb hn9.lt
                        have h12:=h12.below hb h12.lt
                        have hB:=hB.trans (hb.mono hB.size)
                        clear hb
                        refine hK.out _ _ ⟨hn8,hn9,h12⟩ ?_
                        clear hK KK hHeld
                        intro hHeld
                        try simp only[Act.put,List.setIfInBounds_toArray,List.set_cons_zero,List.set_cons_succ,List.getElem_toArray,List.getElem_cons_zero,List.getElem_cons_succ]
                        refine wpAnyH_ready (rs:= [61]) (by kernel_rfl) (by simp) ?_
                        refine(AllReadyH.cons (o:=⟨some 97,_,_,_,_,_⟩) rfl (fun KK hK=> ?_) AllReadyH.nil)
                        ·(try rw[if_pos (by rfl)])
                         refine op_bsl3 rfl rfl rfl rfl ?_
                         obtain⟨x23,hx23⟩:∃X,X=World.alloc x22 (.cells (vsC [numV (1,0),errV k,v]).toArray 39):=⟨_,rfl⟩
                         obtain⟨gA,hgA⟩:∃g,g=(x22).heap.size:=⟨_,rfl⟩
                         have hA:Els [numV (1,0),errV k,v] gA 0 x23:=by rw[hx23,hgA];exact els_new _ _
                         have hb:Below (x22).heap.size (x22) x23:=by rw[hx23];exact(Below.refl _ _).alloc (Nat.le_refl _) _
                         rw[←hx23,←hgA]
                         clear hx23 hgA
                         have hn8:=hn8.below hb hn8.lt
                         have hn9:=hn9.below hb hn9.lt
                         have h12:=h12.below hb h12.lt
                         have hB:=hB.trans (hb.mono hB.size)
                         clear hb
                         refine hK.out _ _ ⟨hn8,hn9,h12⟩ ?_
                         clear hK KK hHeld
                         intro hHeld
                         try simp only[Act.put,List.setIfInBounds_toArray,List.set_cons_zero,List.set_cons_succ]
                         refine wpAnyH_ready (rs:= [62]) (by kernel_rfl) (by simp) ?_
                         refine(AllReadyH.cons (o:=⟨some 98,_,_,_,_,_⟩) rfl (fun KK hK=> ?_) AllReadyH.nil)
                         ·(try rw[if_pos (by rfl)])
                          go_simp
                          refine(HSUM.out _ _ hB hA).mono ?_
                          rintro e x24 ⟨rfl,hb⟩
                          have hn8:=hn8.below hb hn8.lt
                          have hn9:=hn9.below hb hn9.lt
                          have h12:=h12.below hb h12.lt
                          have hB:=hB.trans (hb.mono hB.size)
                          clear hb hA
                          refine hK.out _ _ ⟨hn8,hn9,h12⟩ ?_
                          clear hK KK hHeld
                          intro hHeld
                          try simp only[Act.put,List.setIfInBounds_toArray,List.set_cons_zero,List.set_cons_succ,List.getElem_toArray,List.getElem_cons_zero,List.getElem_cons_succ]
                          refine wpAnyH_ready (rs:= [64]) (by kernel_rfl) (by simp) ?_
                          refine(AllReadyH.cons (o:=⟨some 100,_,_,_,_,_⟩) rfl (fun KK hK=> ?_) AllReadyH.nil)
                          ·(try rw[if_pos (by rfl)])
                           go_simp
                           refine(HSE.out _).mono ?_
                           rintro e x25 ⟨rfl,hb⟩
                           have hn8:=hn8.below hb hn8.lt
                           have hn9:=hn9.below hb hn9.lt
                           have h12:=h12.below hb h12.lt
                           have hB:=hB.trans (hb.mono hB.size)
                           clear hb
                           refine hK.out _ _ ⟨hn8,hn9,h12⟩ ?_
                           clear hK KK hHeld
                           intro hHeld
                           try simp only[Act.put,List.setIfInBounds_toArray,List.set_cons_zero,List.set_cons_succ,List.getElem_toArray,List.getElem_cons_zero,List.getElem_cons_succ]
                           refine tk 65 ⟨some 101,_,_,_,_,_⟩ ?_ hHeld ?_ ?_
                           rotate_left
                           ·(intro w9 hSw;(try dsimp only at hSw);go_simp)
                            all_goals with_reducible rfl
                           try simp only[Act.put,List.setIfInBounds_toArray,List.set_cons_zero,List.set_cons_succ]
                           refine tk 66 ⟨some 6,_,_,_,_,_⟩ ?_ hHeld ?_ ?_
                           rotate_left
                           ·(intro w9 hSw;(try dsimp only at hSw);go_simp)
                            all_goals with_reducible rfl
                           try simp only[Act.put,List.setIfInBounds_toArray,List.set_cons_zero,List.set_cons_succ]
                           refine wpAnyH_done (by kernel_rfl) ?_ _
                           try simp only[Act.put,List.setIfInBounds_toArray,List.set_cons_zero,List.set_cons_succ,List.getElem_toArray,List.getElem_cons_zero,List.getElem_cons_succ]
                           go_wp2_with fail
                           go_ret
                           exact⟨rfl,hB⟩
end Go.Proofs.YtmhfioimgllgeaaGreatDoor
