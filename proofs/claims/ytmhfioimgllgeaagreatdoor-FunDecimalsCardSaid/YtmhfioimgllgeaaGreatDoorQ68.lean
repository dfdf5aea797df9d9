/- Merged: Flw, Lgw, Mny, Dcx, Plb. -/
import Derived.Test.YtmhfioimgllgeaaGreatDoorQ56
import Derived.Test.YtmhfioimgllgeaaGreatDoorQ67
import Derived.Test.YtmhfioimgllgeaaGreatDoorQ65
import Derived.Test.YtmhfioimgllgeaaGreatDoorQ48
import Derived.Test.YtmhfioimgllgeaaGreatDoorQ46
import Derived.Deep.CutBlock
import Derived.Test.YtmhfioimgllgeaaGreatDoorQ59
import Derived.Test.YtmhfioimgllgeaaGreatDoorQ01
namespace Go.Proofs.YtmhfioimgllgeaaGreatDoor
open Go Go.RowKit Go.Shelf
theorem blk_new'' (w:World) (t:Nat) (cs:Array Value):World.blk (w.alloc (.cells cs t)) w.heap.size t cs:=blk_new' w t cs _ rfl
theorem bslice1g (x:Vl) (w:World):(Instr.buildSlice 31 1 #[(0,.agg (pcs x))]).run Tryz.prog w= .ok (.slice (some ⟨w.heap.size,0,none⟩) 1 1) (w.alloc (.cells (vsC [x]).toArray 39)):=by kernel_rfl
theorem els_new (l:List Vl) (w:World):Els l w.heap.size 0 (w.alloc (.cells (vsC l).toArray 39)):=by
 refine⟨by simp,fun i y hy j u hj=> ?_⟩
 rw[Nat.zero_add]
 have h:=World.vb_new w (vsC l).toArray
 refine h.cell ?_
 rw[List.getElem?_toArray]
 have e:vsC l=(l.map pcs).flatMap (·.toList):=by unfold vsC;rw[List.flatMap_map]
 rw[e]
 refine cat_at (l.map pcs) (fun C hC=> ?_) i j (by rw[List.getElem?_map,hy];rfl) hj
 obtain⟨z,_,rfl⟩:=List.mem_map.1 hC
 rfl
theorem op_bsl1 {o:Oper} {a:Act} {w:World} {K:Act→World→Prop} {Q:Exit→Act→World→Prop} {p:Operand} {x:Vl} (ho:o.op= .buildSlice 31 1 #[(0,p)]) (hx:a.eval p= .agg (pcs x)) (h:K (a.put o.dst (.slice (some ⟨w.heap.size,0,none⟩) 1 1)) (w.alloc (.cells (vsC [x]).toArray 39))):o.wp Tryz.prog a w K Q:=by
 have hz:=bslice1g x w
 unfold Oper.wp execOp
 simp[ho,hx,hz]
 exact h
set_option maxRecDepth 100000 in
set_option maxHeartbeats 4000000 in
theorem call20 (s:ByteArray) (L:Value) (w:World) (y:Vl) (p:Option Addr) (n c:Nat) (hL:L= .slice p n c) (h:∀W,Below w.heap.size w W→Calls Tryz.prog 18 #[.string s,L,.agg #[.int .i64 0,.int .i64 0]] W (Gives (.agg (pcs y)) W)):Calls Tryz.prog 20 #[.string s,L] w (Gives (.agg (pcs y)) w):=by
 subst hL
 have hB0:Below w.heap.size w (w.alloc (.cells vz 39)):=(Below.refl _ w).alloc (Nat.le_refl _) _
 have hv0:World.vb (w.alloc (.cells vz 39)) w.heap.size vz:=World.vb_new w vz
 have HC:=Lib.hid (h _ hB0)
 clear h
 go_enter Tryz.func20,Tryz.ntmps20
 go_wp2_with (first|refine wpList_alloc34 rfl rfl ?_|(go_at_call 18;refine HC.out.mono ?_;rintro e w1 ⟨rfl,hB1⟩;have hvy:=hv0.below hB1 hv0.lt;have hB:=hB0.trans (hB1.mono hB0.size))|(refine wpList_store34 rfl rfl rfl rfl hvy (by rfl) (pcs_one _) ?_;intro w9 hn9 hg9 hz9))
 refine bodyPost_ret (results_cell_row rfl _ _ _ 39 _ (0,0) _ rfl hn9 Tryz.underlying39 rfl info34) rfl ?_
 exact⟨rfl,hB.grown hg9 hB.size (fun k9 hk9=>by cases hk9;omega)⟩
end Go.Proofs.YtmhfioimgllgeaaGreatDoor
namespace Go.Proofs.YtmhfioimgllgeaaGreatDoor
open Go Go.RowKit Go.Shelf
theorem vb_apart {w w':World} {g:Nat} {cs:Array Value} {o:Option Nat} (h:World.vb w g cs) (hg:w.grownBy w' o) (hne:o≠some g):World.vb w' g cs:=by
 unfold World.vb at*
 rw[hg.block g (Array.getElem?_eq_some_iff.1 h).1 (fun e=>hne e.symm)];exact h
end Go.Proofs.YtmhfioimgllgeaaGreatDoor
namespace Go.Proofs.YtmhfioimgllgeaaGreatDoor
open Go Go.RowKit Go.Shelf
set_option maxRecDepth 100000 in
set_option maxHeartbeats 4000000 in
theorem values256 (pt:Option Addr) (n c:Nat) (w:World):Calls Tryz.prog 256 #[.slice pt n c] w fun e w'=>e= .returned (.func (.func 303) #[] #[.pointer (some ⟨w.heap.size,0,none⟩)])∧w'=w.alloc (.cells #[.slice pt n c] 156):=by
 go_enter Tryz.func256,Tryz.ntmps256
 go_wp2
 go_ret
 exact⟨rfl,rfl⟩
set_option maxRecDepth 100000 in
set_option maxHeartbeats 4000000 in
theorem collect301 (Bs:Nat) (sv:Value) (ds:List (Int×Int)) (base:Nat) (w:World) (hBs:Bs<w.heap.size) (hlen:ds.length≤20000) (hc:w.cell? ⟨Bs,0,none⟩=some sv) (hD:World.dcr w base sv ds):
 Calls Tryz.prog 301 #[.func (.func 303) #[] #[.pointer (some ⟨Bs,0,none⟩)]] w fun e w'=>∃v,e= .returned v∧World.dcr w' w.heap.size v ds∧Below w.heap.size w w':=by
 have HA:=Lib.hid (append325 Bs sv ds base w hBs hlen hc hD)
 clear hBs hc hD
 go_enter Tryz.func301,Tryz.ntmps301
 go_wp2_with fail
 refine HA.out.mono ?_
 rintro e w1 ⟨v,rfl,hd,hB⟩
 obtain⟨pt,c,rfl,_⟩:=dcr_slice hd
 go_wp2_with fail
 go_ret
 exact⟨_,rfl,hd,hB⟩
set_option maxRecDepth 100000 in
set_option maxHeartbeats 4000000 in
theorem sorted255 (Bs:Nat) (sv:Value) (p q:Int×Int) (hp:RightP p) (hq:RightP q) (base:Nat) (w:World) (hBs:Bs<w.heap.size) (hc:w.cell? ⟨Bs,0,none⟩=some sv) (hD:World.dcr w base sv [p,q]):
 Calls Tryz.prog 255 #[.func (.func 303) #[] #[.pointer (some ⟨Bs,0,none⟩)],.func (.func 37) #[] #[]] w fun e w'=>∃g cap,e= .returned (.slice (some ⟨g,0,none⟩) 2 cap)∧World.dcr w' w.heap.size (.slice (some ⟨g,0,none⟩) 2 cap) (sort2 p q)∧Below w.heap.size w w':=by
 have HC:=Lib.hid (collect301 Bs sv [p,q] base w hBs (by simp) hc hD)
 clear hBs hc hD
 go_enter Tryz.func255,Tryz.ntmps255
 go_wp2_with fail
 refine HC.out.mono ?_
 rintro e w1 ⟨v,rfl,hd,hB⟩
 obtain⟨pt,c,rfl,hpp⟩:=dcr_slice hd
 obtain⟨g,rfl⟩:=hpp (by simp)
 have hd:World.dcr w1 w.heap.size (.slice (some ⟨g,0,none⟩) 2 c) [p,q]:=hd
 have HS:=Lib.hid (sort302 p q hp hq w.heap.size g c w1 hB.size hd)
 clear hd hp hq
 go_wp2_with fail
 refine HS.out.mono ?_
 rintro e w2 ⟨rfl,hB2,hd2⟩
 go_wp2_with fail
 go_ret
 exact⟨_,_,rfl,hd2,hB.trans hB2⟩
set_option maxRecDepth 100000 in
set_option maxHeartbeats 4000000 in
theorem sized168 (sv:Value) (p q:Int×Int) (hp:RightP p) (hq:RightP q) (base:Nat) (w:World) (hD:World.dcr w base sv [p,q]):
 Calls Tryz.prog 168 #[sv] w fun e w'=>∃g cap,e= .returned (.slice (some ⟨g,0,none⟩) 2 cap)∧World.dcr w' w.heap.size (.slice (some ⟨g,0,none⟩) 2 cap) (sort2 p q)∧Below w.heap.size w w':=by
 obtain⟨pt,c,rfl,_⟩:=dcr_slice hD
 obtain⟨W,hW⟩:∃W,W=w.alloc (.cells #[.slice pt [p,q].length c] 156):=⟨_,rfl⟩
 have hB0:Below w.heap.size w W:=by rw[hW];exact(Below.refl _ w).alloc (Nat.le_refl _) _
 have hc0:W.cell? ⟨w.heap.size,0,none⟩=some (.slice pt [p,q].length c):=by rw[hW];exact(blk_new'' w 156 #[.slice pt [p,q].length c]).cell rfl
 have hsz:w.heap.size<W.heap.size:=by rw[hW];simp
 have HS:=Lib.hid (sorted255 w.heap.size (.slice pt [p,q].length c) p q hp hq base W hsz hc0 (hD.below hB0))
 have HV:=Lib.hid (values256 pt [p,q].length c w)
 rw[←hW]at HV
 clear hW hc0 hD hp hq
 go_enter Tryz.func168,Tryz.ntmps168
 go_wp2_with fail
 refine HV.out.mono ?_
 rintro e w1 ⟨rfl,rfl⟩
 go_wp2_with fail
 refine HS.out.mono ?_
 rintro e w2 ⟨g,cap,rfl,hd,hB⟩
 go_wp2_with fail
 go_ret
 exact⟨_,_,rfl,dcr_mono hd (Nat.le_of_lt hsz),hB0.trans (hB.mono hB0.size)⟩
theorem dcr_pos {w:World} {base:Nat} {v:Value} {l:List (Int×Int)} (h:World.dcr w base v l) (hl:l≠ []):∃g cap,v= .slice (some ⟨g,0,none⟩) l.length cap:=by
 obtain⟨_,h|⟨g,cap,cur,rfl,r⟩⟩:=h
 ·exact absurd (List.length_eq_zero_iff.1 h.2) hl
 ·exact⟨g,cap,rfl⟩
set_option maxRecDepth 100000 in
set_option maxHeartbeats 4000000 in
theorem max169 (p q a b:Int×Int) (hp:RightP p) (hq:RightP q) (hab:sort2 p q= [a,b]) (base:Nat) (v:Value) (w:World) (hd:World.dcr w base v [p,q]):Calls Tryz.prog 169 #[v] w (Gives (.agg (pcs (numV b))) w):=by
 have hB0:Below w.heap.size w (w.alloc (.cells vz 39)):=(Below.refl _ w).alloc (Nat.le_refl _) _
 have hv0:World.vb (w.alloc (.cells vz 39)) w.heap.size vz:=World.vb_new w vz
 have HS:=Lib.hid (sized168 v p q hp hq base _ (hd.below hB0))
 obtain⟨pt,c,rfl,_⟩:=dcr_slice hd
 obtain⟨bm,be⟩:=b
 have HN:=Lib.hid (fun W=>num_any bm be W)
 clear hd hp hq
 go_enter Tryz.func169,Tryz.ntmps169
 go_wp2_with (refine wpList_alloc34 rfl rfl ?_)
 refine HS.out.mono ?_
 rintro e w1 ⟨g,cap,rfl,hd,hB1⟩
 rw[hab]at hd
 have hc:=dcr_at1 hd
 have hvy:=hv0.below hB1 hv0.lt
 have hB:=hB0.trans (hB1.mono hB0.size)
 clear hB0 hB1 hv0 hd HS
 go_wp2_with (first|refine wpList_loadDat rfl rfl rfl rfl hc ?_|(go_at_call 119;refine(HN.out _).mono ?_;rintro e w2 ⟨rfl,hB2⟩;have hB:=hB.trans (hB2.mono hB.size);have hvy:=hvy.below hB2 hvy.lt)|(refine wpList_store34 rfl rfl rfl rfl hvy (by rfl) (pcs_one _) ?_;intro w9 hn9 hg9 hz9))
 refine bodyPost_ret (results_cell_row rfl _ _ _ 39 _ (0,0) _ rfl hn9 Tryz.underlying39 rfl info34) rfl ?_
 exact⟨rfl,hB.grown hg9 hB.size (fun k9 hk9=>by cases hk9;omega)⟩
theorem own_not {g b:Nat} {n c:Nat} (h:b+1≤g):Value.ownBlock (.slice (some ⟨g,0,none⟩) n c)≠some b:=fun e=>by
 have:g=b:=by simpa [Value.ownBlock]using e
 omega
theorem own_ge {g b:Nat} {n c:Nat} (h:b+1≤g):∀k,Value.ownBlock (.slice (some ⟨g,0,none⟩) n c)=some k→b≤k:=fun k e=>by
 have:g=k:=by simpa [Value.ownBlock]using e
 omega
set_option maxRecDepth 100000 in
set_option maxHeartbeats 4000000 in
theorem min167 (p q a b:Int×Int) (hp:RightP p) (hq:RightP q) (hab:sort2 p q= [a,b]) (base:Nat) (v:Value) (w:World) (hd:World.dcr w base v [p,q]):Calls Tryz.prog 167 #[v] w (Gives (.agg (pcs (numV a))) w):=by
 have hB0:Below w.heap.size w (w.alloc (.cells vz 39)):=(Below.refl _ w).alloc (Nat.le_refl _) _
 have hv0:World.vb (w.alloc (.cells vz 39)) w.heap.size vz:=World.vb_new w vz
 have HS:=Lib.hid (sized168 v p q hp hq base _ (hd.below hB0))
 obtain⟨pt,c,rfl,_⟩:=dcr_slice hd
 obtain⟨am,ae⟩:=a
 have HN:=Lib.hid (fun W=>num_any am ae W)
 clear hd hp hq
 go_enter Tryz.func167,Tryz.ntmps167
 go_wp2_with (refine wpList_alloc34 rfl rfl ?_)
 refine HS.out.mono ?_
 rintro e w1 ⟨g,cap,rfl,hd,hB1⟩
 rw[hab]at hd
 have hvy:=hv0.below hB1 hv0.lt
 have hB:=hB0.trans (hB1.mono hB0.size)
 have hz0:(w.alloc (.cells vz 39)).heap.size=w.heap.size+1:=by simp
 rw[hz0]at hd
 have hd8:World.dcr (w1.alloc (.cells #[.int .i64 0,.int .i64 0] 34)) (w.heap.size+1) (.slice (some ⟨g,0,none⟩) 2 cap) [(am,ae),b]:=hd.below ((Below.refl _ w1).alloc (Nat.le_refl _) _)
 have hb1:=hvy.lt
 have hgb:w.heap.size+1≤g:=(World.ownsRow.lt hd g rfl).1
 clear hB0 hB1 hv0 hd HS hz0
 go_wp2_with (first|refine wpList_bslD rfl rfl rfl ?_|(refine wpList_pushD (M:=0) (E:=0) (base:=w.heap.size+1) (v:= .slice (some ⟨g,0,none⟩) 2 cap) (l:= [(am,ae),b]) (g:=w1.heap.size) (by rfl) (by rfl) hd8 (by simp) (by rfl) (by rfl) (World.dec_new w1 0 0 _ rfl) (by simp;omega) ?_;intro v8 w8 hr8 hg8;have hr8:World.dcr w8 (w.heap.size+1) v8 ((am,ae) :: [b,(0,0)]):=hr8;obtain⟨g8,cap8,e8⟩:∃g cap,v8= .slice (some ⟨g,0,none⟩) 3 cap:=dcr_pos hr8 (by simp);subst e8;have hc8:=dcr_at0 hr8;have hvy:World.vb w8 w.heap.size vz:=vb_apart (World.vb.alloc (o:= .cells #[.int .i64 0,.int .i64 0] 34) hvy) hg8 (own_not hgb);have hB:Below w.heap.size w w8:=(hB.alloc hB.size _).grown hg8 (by have:=hB.size;simp;omega) (own_ge hgb))|refine wpList_loadDat rfl rfl rfl rfl hc8 ?_|(go_at_call 119;refine(HN.out _).mono ?_;rintro e w2 ⟨rfl,hB2⟩;have hB:=hB.trans (hB2.mono hB.size);have hvy:=hvy.below hB2 hvy.lt)|(refine wpList_store34 rfl rfl rfl rfl hvy (by rfl) (pcs_one _) ?_;intro w9 hn9 hg9 hz9))
 refine bodyPost_ret (results_cell_row rfl _ _ _ 39 _ (0,0) _ rfl hn9 Tryz.underlying39 rfl info34) rfl ?_
 exact⟨rfl,hB.grown hg9 hB.size (fun k9 hk9=>by cases hk9;omega)⟩
end Go.Proofs.YtmhfioimgllgeaaGreatDoor
namespace Go.Proofs.YtmhfioimgllgeaaGreatDoor
open Go Go.RowKit Go.Shelf
set_option maxRecDepth 100000 in
set_option maxHeartbeats 8000000 in
theorem gathered_two (gd:Nat) (eg:∀args w,(callFunc gd args).run Tryz.prog w= .ok (.enter gd args) w) (yy:Vl) (xs:List Vl) (DD:List (Int×Int)) (hf0:(numY xs).find? isF=none) (hdd:decsOf (numY xs)=DD) (hg:∀base v W,World.dcr W base v DD→Calls Tryz.prog gd #[v] W (Gives (.agg (pcs yy)) W)) (L u:Value) (w:World) (hA:ArgsAt w L xs) (hn:xs.length≤25) (hE:Env w) (hb:Bx w u (.func (.func gd) #[] #[])):
 Calls Tryz.prog 253 #[L,u] w (Gives (.agg (pcs yy)) w):=by
 obtain⟨b,t,rfl,hbx⟩:=hb
 have hB0:Below w.heap.size w (w.alloc (.cells vz 39)):=(Below.refl _ w).alloc (Nat.le_refl _) _
 have hv0:World.vb (w.alloc (.cells vz 39)) w.heap.size vz:=World.vb_new w vz
 have hbl:=hbx.lt
 have HN:=Lib.hid (numbers_any xs L _ (hA.below hB0) hn (hE.below hB0))
 have HG:=Lib.hid hg
 obtain⟨p,c,rfl,_⟩:=id hA.1
 clear hA hn hE hg
 go_enter Tryz.func253,Tryz.ntmps253
 go_wp2_with (refine wpList_alloc34 rfl rfl ?_)
 refine HN.out.mono ?_
 rintro e w1 ⟨v,y,rfl,hB1,hr⟩
 have hB:=hB0.trans (hB1.mono hB0.size)
 have hvy:=hv0.below hB1 hv0.lt
 have hbx1:=hbx.below hB hbl
 have hvl:=hvy.lt
 clear HN hB0 hB1 hv0 hbx
 rcases hr with ⟨hf,rfl⟩|⟨hf,rfl,hd⟩
 ·exact absurd (hf.symm.trans hf0) (by simp)
 ·rw[hdd]at hd
  have HI:=Lib.hid (fun W=>isfault_any {} (pcs {}) W rfl (pcs_one {}))
  have hyk:((({}:Vl).k)==4)=false:=rfl
  rw[hyk]at HI
  clear hyk hf hf0 hdd
  go_wp2_with (first|refine wpList_alloc34 rfl rfl ?_|(refine wpList_store34 rfl rfl rfl rfl (World.vb_new' _ _ _ rfl) (by rfl) (pcs_one _) ?_;intro w2 hn2 hg2 hz2;have hb2:Below w1.heap.size w1 w2:=((Below.refl _ w1).alloc (Nat.le_refl _) (.cells vz 39)).grown hg2 (by simp) (fun k hk=>by cases hk;exact Nat.le_refl _);have hvy:=hvy.below hb2 hvy.lt;have hd:=hd.below hb2;have hbx1:=hbx1.below hb2 hbx1.lt;have hB:=hB.trans (hb2.mono hB.size))|refine wpList_load34 rfl rfl rfl hn2 (by rfl) ?_|(go_at_call 144;refine(HI.out _).mono ?_;rintro e w3 ⟨rfl,hB3⟩;have hn2:=hn2.below hB3 hn2.lt;have hvy:=hvy.below hB3 hvy.lt;have hd:=hd.below hB3;have hbx1:=hbx1.below hB3 hbx1.lt;have hc:=hbx1.cell (j:=0) rfl;have hB:=hB.trans (hB3.mono hB.size))|(go_at_fn gd;refine(HG.out _ _ _ hd).mono ?_;rintro e w4 ⟨rfl,hB4⟩;have hvy:=hvy.below hB4 hvy.lt;have hB:=hB.trans (hB4.mono hB.size))|(refine wpList_store34 rfl rfl rfl rfl hvy (by rfl) (pcs_one _) ?_;intro w9 hn9 hg9 hz9))
  refine bodyPost_ret (results_cell_row rfl _ _ _ 39 _ (0,0) _ rfl hn9 Tryz.underlying39 rfl info34) rfl ?_
  exact⟨rfl,hB.grown hg9 hB.size (fun k9 hk9=>by cases hk9;omega)⟩
theorem eg167 :∀args w,(callFunc 167 args).run Tryz.prog w= .ok (.enter 167 args) w:=enters_of Tryz.func167 (by kernel_rfl) rfl
theorem eg169 :∀args w,(callFunc 169 args).run Tryz.prog w= .ok (.enter 169 args) w:=enters_of Tryz.func169 (by kernel_rfl) rfl
set_option maxRecDepth 100000 in
set_option maxHeartbeats 4000000 in
theorem call_max (p q a b:Int×Int) (hp:RightP p) (hq:RightP q) (hab:sort2 p q= [a,b]) (g c:Nat) (hc:2≤c) (hm:c≤maxLen) (w:World) (hEl:Els [numV p,numV q] g 0 w) (hE:Env w):
 Calls Tryz.prog 18 #[.string (mk [77,65,88]),.slice (some ⟨g,0,none⟩) 2 c,.agg #[.int .i64 0,.int .i64 0]] w (Gives (.agg (pcs (numV b))) w):=by
 refine call_a (mk [77,65,88]) (by decide) {least:=1,most:=20,all:=some (.c 253 (.f 169))} (by kernel_rfl) rfl (.c 253 (.f 169)) rfl [numV p,numV q] 2 rfl (nums_plain hp hq) (by simp) (by decide) (by decide) (by decide) g c hc hm w hEl hE _ ?_
 intro W gf ps hEW hAW hEn hd
 obtain⟨rfl,pp,u,rfl,hb,hu⟩:=hd.c_inv
 have hu:u= .func (.func 169) #[] #[]:=hu
 subst hu
 exact⟨eg253,gathered_two 169 eg169 (numV b) [numV p,numV q] [p,q] rfl rfl (fun base v W hd=>max169 p q a b hp hq hab base v W hd) _ pp W hAW (by simp) hEn hb⟩
set_option maxRecDepth 100000 in
set_option maxHeartbeats 4000000 in
theorem call_min (p q a b:Int×Int) (hp:RightP p) (hq:RightP q) (hab:sort2 p q= [a,b]) (g c:Nat) (hc:2≤c) (hm:c≤maxLen) (w:World) (hEl:Els [numV p,numV q] g 0 w) (hE:Env w):
 Calls Tryz.prog 18 #[.string (mk [77,73,78]),.slice (some ⟨g,0,none⟩) 2 c,.agg #[.int .i64 0,.int .i64 0]] w (Gives (.agg (pcs (numV a))) w):=by
 refine call_a (mk [77,73,78]) (by decide) {least:=1,most:=20,all:=some (.c 253 (.f 167))} (by kernel_rfl) rfl (.c 253 (.f 167)) rfl [numV p,numV q] 2 rfl (nums_plain hp hq) (by simp) (by decide) (by decide) (by decide) g c hc hm w hEl hE _ ?_
 intro W gf ps hEW hAW hEn hd
 obtain⟨rfl,pp,u,rfl,hb,hu⟩:=hd.c_inv
 have hu:u= .func (.func 167) #[] #[]:=hu
 subst hu
 exact⟨eg253,gathered_two 167 eg167 (numV a) [numV p,numV q] [p,q] rfl rfl (fun base v W hd=>min167 p q a b hp hq hab base v W hd) _ pp W hAW (by simp) hEn hb⟩
end Go.Proofs.YtmhfioimgllgeaaGreatDoor
namespace Go.Proofs.YtmhfioimgllgeaaGreatDoor
open Go
theorem layD_abs (M E:Int):layD M E=(valZ (M,E)).natAbs:=(valZ_abs (M,E)).symm
theorem val_inj {p p':Int×Int} (h:RightP p) (h':RightP p') (hv:valZ p=valZ p'):p=p':=by
 obtain⟨M,E⟩:=p
 obtain⟨M',E'⟩:=p'
 have a:=near_lay h
 have b:=near_lay h'
 have n1:=valZ_neg (M,E)
 have n2:=valZ_neg (M',E')
 have e1:layD M E=layD M' E':=by rw[layD_abs,layD_abs,hv]
 have e2:decide (M<0)=decide (M'<0):=by
  simp only at n1 n2
  rw[decide_eq_decide,←n1,←n2,hv]
 rw[e1,e2,b]at a
 exact(Prod.mk.inj a).1.symm
theorem layD_iff {M E M' E':Int}:layD M' E'<layD M E↔(valZ (M',E')).natAbs<(valZ (M,E)).natAbs:=by rw[layD_abs,layD_abs]
theorem cmpD_Z {M E M' E':Int} (h:RightP (M,E)) (h':RightP (M',E')):cmpD M E M' E'=if valZ (M,E)<valZ (M',E')then -1 else if valZ (M,E)=valZ (M',E')then 0 else 1:=by
 unfold cmpD cmpR
 rw[if_pos ⟨rightB_P.2 h,rightB_P.2 h'⟩]
 have n1:=valZ_neg (M,E)
 have n2:=valZ_neg (M',E')
 have hl:= @layD_iff M E M' E'
 have hinj:valZ (M,E)=valZ (M',E')↔M=M'∧E=E':=by
  constructor
  ·intro e
   have:=val_inj h h' e
   exact⟨(Prod.mk.inj this).1,(Prod.mk.inj this).2⟩
  ·rintro⟨rfl,rfl⟩;rfl
 simp only at n1 n2
 simp only[←hinj,hl,←n1,←n2]
 generalize valZ (M,E)=z at*
 generalize valZ (M',E')=z' at*
 (repeat' split)<;>omega
theorem sort2_is (p q:Int×Int) (hp:RightP p) (hq:RightP q):sort2 p q=if cmpD p.1 p.2 q.1 q.2<0 then [p,q]else [q,p]:=by
 obtain⟨M,E⟩:=p
 obtain⟨M',E'⟩:=q
 have c1:=cmpD_Z hp hq
 have c2:=cmpD_Z hq hp
 have hi:=val_inj hp hq
 unfold sort2
 simp only
 rw[c1,c2]
 generalize valZ (M,E)=z at*
 generalize valZ (M',E')=z' at*
 rcases(by omega:z<z'∨z=z'∨z'<z)with h|h|h
 ·rw[if_neg (by omega:¬z'<z),if_neg (by omega:¬z'=z),if_pos h,if_neg (by decide),if_pos (by decide)]
 ·have:=hi h
  rw[if_neg (by omega:¬z'<z),if_pos h.symm,if_neg (by omega:¬z<z'),if_pos h,if_neg (by decide),if_neg (by decide),this]
 ·rw[if_pos h,if_neg (by omega:¬z<z'),if_neg (by omega:¬z=z'),if_pos (by decide),if_neg (by decide)]
/-- Whole numbers from -9 to 9. -/
def smallB (k:Int):Bool:=(ofD k==((k,0),0))&&(whN (numV (k,0))==k&&(whR (numV (k,0)) (-9) 9&&whR (numV (k,0)) (-100) 100))
theorem small_all :((List.range 19).all fun i=>smallB ((i:Int)-9))=true:=by kernel_rfl
theorem small_is {k:Int} (h0: -9≤k) (h1:k≤9):ofD k=((k,0),0)∧whN (numV (k,0))=k∧whR (numV (k,0)) (-9) 9=true∧whR (numV (k,0)) (-100) 100=true:=by
 have h:=List.all_eq_true.1 small_all (k+9).toNat (by rw[List.mem_range];omega)
 have e:(((k+9).toNat:Nat):Int)-9=k:=by omega
 rw[e]at h
 unfold smallB at h
 simp only[Bool.and_eq_true,beq_iff_eq]at h
 exact⟨h.1,h.2.1,h.2.2.1,h.2.2.2⟩
end Go.Proofs.YtmhfioimgllgeaaGreatDoor
