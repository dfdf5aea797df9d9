/- Merged: Sml, Le0, Let, Cop, Lif. -/
import Derived.Test.YtmhfioimgllgeaaGreatDoorR32
import Derived.Test.YtmhfioimgllgeaaGreatDoorR37
import Derived.Test.YtmhfioimgllgeaaGreatDoorR40
import Derived.Test.YtmhfioimgllgeaaGreatDoorR17
import Derived.Lib.OthersKept
namespace Go.Proofs.YtmhfioimgllgeaaGreatDoor
open Go Go.RowKit Go.Shelf
set_option maxHeartbeats 1000000 in
theorem fault_any (n:Int) (w:World):Calls Tryz.prog 44 #[.int .i64 n] w (Gives (.agg (pcs (errV n))) w):=by
 go_enter Tryz.func44,Tryz.ntmps44
 go_wp2_with (first|refine wpList_alloc34 rfl rfl ?_|refine wpList_build_err rfl rfl (by rfl) ?_|(refine wpList_store34 rfl rfl rfl rfl (World.vb_new' _ _ _ (by simp)) (by rfl) (pcs_one _) ?_;intro w1 hn1 hg1 hz1))
 refine bodyPost_ret (results_cell_row rfl _ _ _ 39 _ (0,0) _ rfl hn1 Tryz.underlying39 rfl info34) rfl ?_
 exact⟨rfl,(((Below.refl _ w).alloc (Nat.le_refl _) _)).grown hg1 (by simp) (fun k hk=>by cases hk;simp)⟩
set_option maxHeartbeats 1000000 in
theorem num_any (M E:Int) (w:World):Calls Tryz.prog 119 #[.agg #[.int .i64 M,.int .i64 E]] w (Gives (.agg (pcs (numV (M,E)))) w):=by
 go_enter Tryz.func119,Tryz.ntmps119
 go_wp2_with (first|refine wpList_alloc34 rfl rfl ?_|refine wpList_build_num rfl rfl (by rfl) ?_|(refine wpList_store34 rfl rfl rfl rfl (World.vb_new' _ _ _ (by simp)) (by rfl) (pcs_one _) ?_;intro w1 hn1 hg1 hz1))
 refine bodyPost_ret (results_cell_row rfl _ _ _ 39 _ (0,0) _ rfl hn1 Tryz.underlying39 rfl info34) rfl ?_
 exact⟨rfl,(((Below.refl _ w).alloc (Nat.le_refl _) _).alloc (by simp) _).grown hg1 (by simp;omega) (fun k hk=>by cases hk;simp)⟩
set_option maxHeartbeats 1000000 in
theorem truthF_any (b:Bool) (w:World):Calls Tryz.prog 137 #[.bool b] w (Gives (.agg (pcs (trV b))) w):=by
 go_enter Tryz.func137,Tryz.ntmps137
 go_wp2_with (first|refine wpList_alloc34 rfl rfl ?_|refine wpList_build_tr rfl rfl (by rfl) ?_|(refine wpList_store34 rfl rfl rfl rfl (World.vb_new' _ _ _ (by simp)) (by rfl) (pcs_one _) ?_;intro w1 hn1 hg1 hz1))
 refine bodyPost_ret (results_cell_row rfl _ _ _ 39 _ (0,0) _ rfl hn1 Tryz.underlying39 rfl info34) rfl ?_
 exact⟨rfl,(((Below.refl _ w).alloc (Nat.le_refl _) _)).grown hg1 (by simp) (fun k hk=>by cases hk;simp)⟩
set_option maxHeartbeats 1000000 in
theorem isfault_any (x:Vl) (C:Array Value) (w:World) (hC:C[0]? =some (.int .i64 x.k)) (hO:OneC C):Calls Tryz.prog 144 #[.agg C] w (Gives (.bool (x.k==4)) w):=by
 have hvx:World.vb (w.alloc (.cells C 39)) w.heap.size C:=World.vb_new w C
 have c0:=hvx.cell hC
 have hcl:C.all (·.oneCell')=true:=hO.2
 go_enter Tryz.func144,Tryz.ntmps144
 go_wp2_with fail
 go_ret
 exact⟨rfl,(Below.refl _ w).alloc (Nat.le_refl _) _⟩
set_option maxHeartbeats 2000000 in
theorem count_any (n:Int) (w:World) (h0: -9223372036854775808≤n) (h1:n≤9223372036854775807):Calls Tryz.prog 121 #[.int .i64 n] w (Gives (.agg (pcs (numV (ofD n).1))) w):=by
 have HD:=Lib.hid (of_n n (w.alloc (.cells vz 39)) h0 h1)
 generalize ofD n=p at HD⊢
 obtain⟨⟨M,E⟩,r⟩:=p
 go_enter Tryz.func121,Tryz.ntmps121
 go_wp2_with (refine wpList_alloc34 rfl rfl ?_)
 refine HD.out.mono ?_
 rintro e w1 ⟨rfl,hB1⟩
 have hz:(w.alloc (.cells vz 39)).heap.size=w.heap.size+1:=by simp
 have hvy:World.vb w1 w.heap.size vz:=(World.vb_new w vz).below hB1 (by rw[hz];omega)
 have hB:Below w.heap.size w w1:=((Below.refl _ w).alloc (Nat.le_refl _) _).trans (hB1.mono (by rw[hz];omega))
 have hb1:=hvy.lt
 clear hB1 hz
 simp only[decV]
 go_wp2_with fail
 refine(num_any M E _).mono ?_
 rintro e w2 ⟨rfl,hB2⟩
 have hB2:Below w1.heap.size w1 w2:=((Below.refl _ w1).alloc (Nat.le_refl _) _).trans (hB2.mono (by simp))
 have hvy:=hvy.below hB2 hvy.lt
 have hB:=hB.trans (hB2.mono hB.size)
 go_wp2_with (refine wpList_store34 rfl rfl rfl rfl hvy (by rfl) (pcs_one _) ?_;intro w9 hn9 hg9 hz9)
 refine bodyPost_ret (results_cell_row rfl _ _ _ 39 _ (0,0) _ rfl hn9 Tryz.underlying39 rfl info34) rfl ?_
 exact⟨rfl,hB.grown hg9 hB.size (fun k9 hk9=>by cases hk9;omega)⟩
end Go.Proofs.YtmhfioimgllgeaaGreatDoor
namespace Go.Proofs.YtmhfioimgllgeaaGreatDoor
open Go Go.RowKit Go.Shelf
theorem els_cells {l:List Vl} {g off:Nat} {w:World} (h:Els l g off w) (j:Nat) (u:Value) (hj:(vsC l)[j]? =some u):w.cell? ⟨g,off+j,none⟩=some u:=by
 have hlt:j<l.length*12:=by rw[←vsC_len];exact(List.getElem?_eq_some_iff.1 hj).1
 have hi:j / 12<l.length:=by omega
 have hr:j%12<(pcs l[j / 12]).size:=Nat.mod_lt _ (by decide)
 have h1:l[j / 12]? =some l[j / 12]:=List.getElem?_eq_getElem hi
 have h2:(pcs l[j / 12])[j%12]? =some ((pcs l[j / 12])[j%12]'hr):=Array.getElem?_eq_getElem hr
 have h3:=vsC_at l _ _ h1 h2
 have e:j / 12*12+j%12=j:=by omega
 rw[e,hj]at h3
 have:=h.2 _ _ h1 _ _ h2
 rw[Nat.add_assoc,e]at this
 rw[this,h3]
/-- A clone of plain values: an own row. -/
theorem clone92 (l:List Vl) (g off c:Nat) (w:World) (h:Els l g off w) (hl:l.length≤1000) (_hne:l≠ []):Calls Tryz.prog 92 #[.slice (some ⟨g,off,none⟩) l.length c] w fun e w'=>∃g' cap,e= .returned (.slice (some ⟨g',0,none⟩) l.length cap)∧World.vr w' w.heap.size (.slice (some ⟨g',0,none⟩) l.length cap) l∧w.heap.size≤g'∧g'<w'.heap.size∧Below w.heap.size w w':=by
 obtain⟨i0,hi,hz0,hz1,hz2⟩:=info_parts info34b
 refine(AnyE.slices_Clone Tryz.laysF92 i0 (.agg vz) 12 152 hi hz0 hz1 hz2 rfl (by decide) Tryz.sizeOf39 g off l.length c (vsC l) w (vsC_len l) (by unfold maxLen;omega) (by omega) (els_cells h) ?_).mono ?_
 ·intro u hu
  unfold vsC at hu
  obtain⟨x,_,hx⟩:=List.mem_flatMap.1 hu
  exact pcs_cell1 x u hx
 ·rintro e w' ⟨v',rfl,hown,hnn,hB⟩
  obtain⟨hlen,h|⟨g',cap,cur,rfl,hb,hc,r⟩⟩:=hown
  ·exact absurd h.1 hnn
  ·exact⟨g',cap,rfl,⟨hlen,.inr ⟨g',cap,cur,rfl,hb,hc,r⟩⟩,hb,(Array.getElem?_eq_some_iff.1 hc).1,hB⟩
section
variable {ops : Array Oper} {rest : List Oper} {o : Oper} {a : Act} {w w' : World} {K : Act → World → Prop} {Q : Exit → Act → World → Prop}
theorem wpList_storev {x y:Operand} {g off:Nat} {z:Vl} (hgd:o.guard=none) (ho:o.op= .store 39 x y) (hx:a.eval x= .pointer (some ⟨g,off,none⟩)) (hy:a.eval y= .agg (pcs z))
 (hs:(storeCells ⟨g,off,none⟩ (pcs z).toList 0).run Tryz.prog w= .ok () w') (h:wpList Tryz.prog ops Q rest (a.put o.dst undef) w'):wpList Tryz.prog ops Q (o :: rest) a w:=
 wpList_plain hgd fun K hK=>by
  have h12:(Value.agg (pcs z)).cells.size=12:=rfl
  have hz:=Tryz.sizeOf39 w
  have hcs:(Value.agg (pcs z)).cells=pcs z:=rfl
  unfold Oper.wp execOp
  simp only[ho,hx,hy,Instr.storeAt,Instr.sureAddr,storeVar,Sem.run_bind,Sem.run_pure,Result.andThen_ok,hz,hcs]
  rw[if_neg (by rw[show (pcs z).size=12 from rfl];simp)]
  simp only[Result.andThen_ok,hs]
  exact hK _ _ h
end
section
variable {ops : Array Oper} {rest : List Oper} {o : Oper} {a : Act} {w : World} {Q : Exit → Act → World → Prop}
theorem wpList_load34atg {x:Operand} {g off:Nat} {cs:Array Value} (hw:Region.wanted o (yielded ops a.tmps)=true) (ho:o.op= .load 39 x) (hx:a.eval x= .pointer (some ⟨g,off,none⟩)) (hs:cs.size=12)
 (hc:∀j u,cs[j]? =some u→w.cell? ⟨g,off+j,none⟩=some u) (h:wpList Tryz.prog ops Q rest (a.put o.dst (.agg cs)) w):wpList Tryz.prog ops Q (o :: rest) a w:=
 wpList_on hw fun _ hK=>op_load34at ho hx hs hc (hK _ _ h)
end
theorem vr_cells {w:World} {base:Nat} {l:List Vl} {g n cap:Nat} (h:World.vr w base (.slice (some ⟨g,0,none⟩) n cap) l) {k:Nat} {x:Vl} (hx:l[k]? =some x) (j:Nat) (u:Value) (hj:(pcs x)[j]? =some u):w.cell? ⟨g,k*12+j,none⟩=some u:=by
 obtain⟨hlen,h|⟨g',cap',cur,e,hb,hc,hn,hm,hs,ht⟩⟩:=h
 ·cases h.1
 ·injection e with e1 e2 e3
  injection e1 with e1
  injection e1 with e1
  subst e1
  rw[cell_of_row w g _ _ _ _ hc]
  have:=vsC_at l k j hx hj
  rw[←ht]at this
  have h2:=(List.getElem?_eq_some_iff.1 this).1
  rw[List.length_take]at h2
  rw[List.getElem?_take,if_pos (by omega)]at this
  simpa using this
theorem vr_but {w W:World} {base b:Nat} {l:List Vl} {g n cap:Nat} (h:World.vr w base (.slice (some ⟨g,0,none⟩) n cap) l) (hg:w.grownBy W (some b)) (hne:g≠b):World.vr W base (.slice (some ⟨g,0,none⟩) n cap) l:=
 World.ownsRow.kept h hg (.inr (by intro e;injection e with e;exact hne e))
theorem vb_but {w W:World} {b g:Nat} {cs:Array Value} (h:World.vb w g cs) (hg:w.grownBy W (some b)) (hne:g≠b):World.vb W g cs:=by
 unfold World.vb at*
 rw[hg.block g (Array.getElem?_eq_some_iff.1 h).1 (by intro e;injection e with e;exact hne e)];exact h
theorem grown_iterAt (w:World) (k:Nat) (s:ByteArray) (pos:Nat):w.grownBy (w.iterAt k s pos) (some k):=
 ⟨rfl,rfl,rfl,by rw[Lib.iterAt_size];exact Nat.le_refl _,fun i _ hne=>Lib.iterAt_other w k i s pos (fun e=>hne (by rw[e]))⟩
def convL (h:UInt8) (x:Vl):Vl:=if h=110 then numT x else if h=116 then txtT x else if h=98 then truT x else x
theorem convL_plain {h:UInt8} {x:Vl} (hx:plainV x=true):plainV (convL h x)=true:=by
 unfold convL
 split
 ·exact numT_plain hx
 ·split
  ·exact txtT_plain hx
  ·split
   ·exact truT_plain hx
   ·exact hx
def badL (h:UInt8) (x:Vl):Bool:=h != 118&&(convL h x).k==4
/-- The first K are told. -/
def inL (hs:List UInt8) (xs:List Vl) (K:Nat):List Vl:=xs.mapIdx fun i x=>if i<K then convL (hs.getD i 0) x else x
theorem inL_len (hs:List UInt8) (xs:List Vl) (K:Nat):(inL hs xs K).length=xs.length:=by simp[inL]
theorem inL_zero (hs:List UInt8) (xs:List Vl):inL hs xs 0=xs:=by
 apply List.ext_getElem (by simp[inL])
 intro i h1 h2
 simp[inL]
theorem inL_at {hs:List UInt8} {xs:List Vl} {K i:Nat} {x:Vl} (h:xs[i]? =some x):(inL hs xs K)[i]? =some (if i<K then convL (hs.getD i 0) x else x):=by
 simp[inL,h]
theorem inL_succ {hs:List UInt8} {xs:List Vl} {K:Nat} {x:Vl} (h:xs[K]? =some x):(inL hs xs K).set K (convL (hs.getD K 0) x)=inL hs xs (K+1):=by
 have hK:=(List.getElem?_eq_some_iff.1 h).1
 apply List.ext_getElem (by simp[inL])
 intro i h1 h2
 have hi:i<xs.length:=by simpa [inL]using h2
 rw[List.getElem_set]
 by_cases e:K=i
 ·subst e
  rw[if_pos rfl]
  simp only[inL,List.getElem_mapIdx,if_pos (Nat.lt_succ_self K)]
  rw[(List.getElem?_eq_some_iff.1 h).2]
 ·rw[if_neg e]
  simp only[inL,List.getElem_mapIdx]
  by_cases c:i<K
  ·rw[if_pos c,if_pos (by omega)]
  ·rw[if_neg c,if_neg (by omega)]
theorem inL_same {hs:List UInt8} {xs:List Vl} {K:Nat} {x:Vl} (h:xs[K]? =some x) (hc:convL (hs.getD K 0) x=x):inL hs xs (K+1)=inL hs xs K:=by
 rw[←inL_succ h,hc]
 have:=inL_at (hs:=hs) (K:=K) h
 rw[if_neg (Nat.lt_irrefl K)]at this
 obtain⟨h1,h2⟩:=List.getElem?_eq_some_iff.1 this
 rw[←h2]
 exact List.set_getElem_self h1
end Go.Proofs.YtmhfioimgllgeaaGreatDoor
namespace Go.Proofs.YtmhfioimgllgeaaGreatDoor
open Go Go.RowKit Go.Shelf
/-- The letters' loop, from the values on: what the round needs. -/
structure LetAt (w0 wr:World) (cs:Array Value) (bi g' base:Nat) (S:ByteArray) (K n cap:Nat) (l:List Vl):Prop where
 it:wr.heap[bi]? =some (.stringIter S K)
 box:World.blk wr w0.heap.size 83 cs
 res:World.vb wr (w0.heap.size+1) vz
 row:World.vr wr base (.slice (some ⟨g',0,none⟩) n cap) l
 below:Below w0.heap.size w0 wr
 lt1:w0.heap.size+2≤g'
 lt2:g'<bi
theorem LetAt.next {w0 wr:World} {cs:Array Value} {bi g' base:Nat} {S:ByteArray} {K n cap:Nat} {l:List Vl} (h:LetAt w0 wr cs bi g' base S K n cap l) (K':Nat):LetAt w0 (wr.iterAt bi S K') cs bi g' base S K' n cap l:=by
 have h1:=h.lt1
 have h2:=h.lt2
 have hg:=grown_iterAt wr bi S K'
 exact⟨Lib.iterAt_heap wr bi S K K' h.it,blk_but h.box hg (by omega),vb_but h.res hg (by omega),vr_but h.row hg (by omega),h.below.grown hg h.below.size (fun j hj=>by cases hj;omega),h.lt1,h.lt2⟩
theorem LetAt.call {w0 wr w':World} {cs:Array Value} {bi g' base:Nat} {S:ByteArray} {K n cap:Nat} {l:List Vl} (h:LetAt w0 wr cs bi g' base S K n cap l) (hB:Below wr.heap.size wr w'):LetAt w0 w' cs bi g' base S K n cap l:=
 ⟨(hB.block bi (Array.getElem?_eq_some_iff.1 h.it).1).trans h.it,h.box.below hB h.box.lt,h.res.below hB h.res.lt,h.row.below hB,h.below.trans (hB.mono h.below.size),h.lt1,h.lt2⟩
theorem LetAt.store {w0 wr:World} {cs:Array Value} {bi g' base:Nat} {S:ByteArray} {K n cap:Nat} {l:List Vl} (h:LetAt w0 wr cs bi g' base S K n cap l) (hn:n=l.length) {k:Nat} (hk:k<l.length) (y:Vl):
 ∃W,(storeCells ⟨g',k*12,none⟩ (pcs y).toList 0).run Tryz.prog wr= .ok () W∧LetAt w0 W cs bi g' base S K n cap (l.set k y):=by
 subst hn
 have h1:=h.lt1
 have h2:=h.lt2
 obtain⟨g2,cap2,e,hb,hlt,hrun,hrow⟩:=vr_store h.row hk y
 injection e with e1 e2 e3
 injection e1 with e1
 injection e1 with e1
 subst e1 e3
 have hg:=grown_setCells g' (pcs y).toList (k*12) wr
 refine⟨_,hrun,⟨?_,blk_but h.box hg (by omega),vb_but h.res hg (by omega),hrow,h.below.grown hg h.below.size (fun j hj=>by cases hj;omega),h.lt1,h.lt2⟩⟩
 rw[hg.block bi (Array.getElem?_eq_some_iff.1 h.it).1 (by intro e;injection e with e;omega)];exact h.it
set_option maxRecDepth 100000 in
set_option maxHeartbeats 8000000 in
theorem letters_any (cs:Array Value) (hcs:OneF cs) (how:List UInt8) (h2:cs[2]? =some (.string (mk how))) (gf:Nat) (ps:Array Value) (h3:cs[3]? =some (fnV gf ps)) (eg:∀args w,(callFunc gf args).run Tryz.prog w= .ok (.enter gf args) w)
 (xs:List Vl) (hx:∀x∈xs,plainV x=true) (hne:xs≠ []) (hlen:xs.length≤how.length) (hl:xs.length≤1000) (hasc:∀c∈how,c=110∨c=116∨c=98∨c=118) (g off c:Nat) (w:World) (hE:Els xs g off w) (he:Env w) (y:Vl)
 (hone:(∀i x,xs[i]? =some x→badL (how.getD i 0) x=false)→∀(W:World) (base g' cap:Nat),Below w.heap.size w W→World.vr W base (.slice (some ⟨g',0,none⟩) xs.length cap) (inL how xs xs.length)→g'<W.heap.size→Calls Tryz.prog gf (#[.slice (some ⟨g',0,none⟩) xs.length cap]++ps) W (Gives (.agg (pcs y)) W))
 (hbad:∀i x,xs[i]? =some x→badL (how.getD i 0) x=true→(∀j z,j<i→xs[j]? =some z→badL (how.getD j 0) z=false)→y=convL (how.getD i 0) x):
 Calls Tryz.prog 97 #[.agg cs,.slice (some ⟨g,off,none⟩) xs.length c] w (Gives (.agg (pcs y)) w):=by
 have HO:=Lib.hid hone
 have HBD:=Lib.hid hbad
 have HX:=Lib.hid hx
 have HEL:=Lib.hid (show ∀W,Below w.heap.size w W→Els xs g off W from fun W hW=>hE.below hW)
 have HEN:=Lib.hid (show ∀W,Below w.heap.size w W→Env W from fun W hW=>he.below hW)
 have HCS:=Lib.hid hcs
 have HH:=Lib.hid h2
 have HF:=Lib.hid h3
 have HA:=Lib.hid hasc
 have hgl:=hE.1
 clear hone hbad hx hE he hcs h2 h3 hasc
 obtain⟨W,hW⟩:∃W,W=(w.alloc (.cells cs 83)).alloc (.cells vz 39):=⟨_,rfl⟩
 have hbx:World.blk W w.heap.size 83 cs:=by rw[hW];unfold World.blk;rw[heap_alloc_old _ _ (by simp)];exact blk_new w 83 cs
 have hvy:World.vb W (w.heap.size+1) vz:=by rw[hW];exact World.vb_new' _ _ _ (by simp)
 have hB:Below w.heap.size w W:=by rw[hW];exact((Below.refl _ w).alloc (Nat.le_refl _) _).alloc (by simp) _
 have hsz:W.heap.size=w.heap.size+2:=by rw[hW];simp
 have hcl:cs.all (·.oneCell')=true:=HCS.out.2
 go_enter Tryz.func97,Tryz.ntmps97
 go_upto_region 1 with (refine wpList_alloc34 rfl rfl ?_)
 go_simp
 rw[←hW]
 clear hW hcl
 go_wp2_with fail
 refine(clone92 xs g off c W (HEL.out W hB) hl hne).mono ?_
 rintro e W1 ⟨g',cap,rfl,hrow,hg1,hg2,hB1⟩
 have hbx:=hbx.below hB1 hbx.lt
 have hvy:=hvy.below hB1 hvy.lt
 have c2:=hbx.cell HH.out
 have hlI:(xs.length:Int)≤((mk how).size:Int):=by show(xs.length:Int)≤(how.length:Int);omega
 go_wp2_with fail
 obtain⟨S,hS⟩:∃S,S=(mk how).extract 0 xs.length:=⟨_,rfl⟩
 have hSz:S.size=xs.length:=by rw[hS,ByteArray.size_extract];show min xs.length how.length-0=_;omega
 have hSat:∀K (h:K<S.size),(S[K]'h)=how.getD K 0:=by
  intro K h
  have hK:K<how.length:=by omega
  subst hS
  rw[ByteArray.getElem_extract]
  simp only[Nat.zero_add]
  rw[List.getD_eq_getElem?_getD,List.getElem?_eq_getElem hK]
  rfl
 rw[←hS]
 have HS:=Lib.hid hSat
 have H0:LetAt w (W1.iter S 0) cs W1.heap.size g' W.heap.size S 0 xs.length cap (inL how xs 0):=by
  have e:W1.iter S 0=W1.alloc (.stringIter S 0):=rfl
  have hg:=World.grownBy_alloc W1 (.stringIter S 0) none
  rw[e,inL_zero]
  exact⟨heap_alloc_new W1 _,by unfold World.blk;rw[heap_alloc_old _ _ hbx.lt];exact hbx,hvy.alloc _,hrow.alloc _,(hB.trans (hB1.mono hB.size)).alloc (Nat.le_trans hB.size hB1.size) _,by omega,hg2⟩
 obtain⟨bi,hbi⟩:∃b,b=W1.heap.size:=⟨_,rfl⟩
 obtain⟨base,hbase⟩:∃b,b=W.heap.size:=⟨_,rfl⟩
 rw[←hbi,←hbase]at H0
 rw[←hbi]
 have hXn:0<xs.length:=List.length_pos_iff.2 hne
 clear hS hSat hbx hvy hrow c2 hB hB1 hsz hg1 hg2 hlI hbi hbase
 go_loopw [16] (fun _ wr=>∃K,K≤xs.length∧Hid (LetAt w wr cs bi g' base S K xs.length cap (inL how xs K))∧Hid (∀i x,i<K→xs[i]? =some x→badL (how.getD i 0) x=false)) (fun _ wr=>xs.length-wr.iterPos bi)
 case atStart=>exact⟨0,Nat.zero_le _,H0,fun i x h=>by omega⟩
 case round=>
  clear H0
  obtain⟨K,hK,HL,HN⟩:=hrel
  have hpos:wr.iterPos bi=K:=by unfold World.iterPos;rw[HL.out.it]
  have hlb:=HL.out.lt2
  by_cases hlt:K<xs.length
  ·have hp:K<S.size:=by omega
   obtain⟨x,hx⟩:∃x,xs[K]? =some x:=⟨_,List.getElem?_eq_getElem hlt⟩
   have hmem:x∈xs:=List.mem_of_getElem? hx
   have hxp:=HX.out x hmem
   obtain⟨q,hq⟩:∃q,how.getD K 0=q:=⟨_,rfl⟩
   have hqm:q∈how:=by rw[←hq,List.getD_eq_getElem?_getD,List.getElem?_eq_getElem (by omega:K<how.length)];exact List.getElem_mem _
   have hSK:S[K]'hp=q:=by rw[HS.out K hp,hq]
   have hnx:=fun ty=>Lib.run_next_ascii_at (P:=Tryz.prog) wr bi S K ty HL.out.it hp (by rw[hSK];rcases HA.out q hqm with h|h|h|h<;>rw[h]<;>decide)
   rw[hSK]at hnx
   have HL2:=Lib.hid (HL.out.next (K+1))
   have hKI:(K:Int)<(xs.length:Int):=by omega
   have HXx:=Lib.hid hx
   have HXp:=Lib.hid hxp
   have HQ:=Lib.hid hq
   have HQ4:=Lib.hid (HA.out q hqm)
   have hi2:(wr.iterAt bi S (K+1)).iterPos bi=K+1:=by unfold World.iterPos;rw[HL2.out.it]
   obtain⟨W2,hW2⟩:∃W,W=wr.iterAt bi S (K+1):=⟨_,rfl⟩
   rw[←hW2]at HL2 hi2
   simp only[←hW2]at hnx
   clear hx hxp hq hqm hmem hSK hp hW2 HL
   have hel:=(HEL.out W2 HL2.out.below).2 K x HXx.out
   have heE:=HEN.out W2 HL2.out.below
   by_cases q110:q=110
   ·subst q110
    have hconv:convL 110 x=numT x:=rfl
    have hqv:((110:UInt8).toNat:Int)=110:=rfl
    rw[hqv]at hnx
    go_wp2_with (refine wpList_load34at rfl rfl rfl rfl hel ?_)
    refine(tonum_one x W2 HXp.out heE.1 heE.2).mono ?_
    rintro e3 w3 ⟨rfl,hB3⟩
    obtain⟨W4,hrun,hl4⟩:=(HL2.out.call hB3).store (inL_len _ _ _).symm (k:=K) (by rw[inL_len];exact hlt) (numT x)
    have HL4:Hid (LetAt w W4 cs bi g' base S (K+1) xs.length cap (inL how xs (K+1))):=by
     have e:=inL_succ (hs:=how) HXx.out
     rw[HQ.out,hconv]at e
     rw[e]at hl4;exact hl4
    have hin:(inL how xs (K+1))[K]? =some (numT x):=by
     rw[inL_at HXx.out,if_pos (Nat.lt_succ_self K),HQ.out,hconv]
    clear hl4
    go_wp2_with (first|refine wpList_storev rfl rfl rfl rfl hrun ?_|refine wpList_load34atg (by rfl) rfl rfl rfl (vr_cells HL4.out.row hin) ?_)
    refine(isfault_any (numT x) (pcs (numT x)) _ rfl (pcs_one _)).mono ?_
    rintro e5 w5 ⟨rfl,hB5⟩
    have HL5:=Lib.hid (HL4.out.call hB5)
    have hi5:w5.iterPos bi=K+1:=by unfold World.iterPos;rw[HL5.out.it]
    by_cases hb:((numT x).k==4)=true
    ·rw[hb]
     have hvy:=HL5.out.res
     have hB7:=HL5.out.below
     have hrow:=vr_cells HL5.out.row hin
     have HY:Hid (y=numT x):=by
      have:=HBD.out K x HXx.out (by rw[HQ.out];unfold badL;rw[hconv,hb];rfl) (fun j z hj hz=>HN.out j z hj hz)
      rw[this,HQ.out];exact hconv
     go_wp2_with (first|refine wpList_load34at rfl rfl rfl rfl hrow ?_|(refine wpList_store34 rfl rfl rfl rfl hvy (by rfl) (pcs_one _) ?_;intro w7 hn7 hg7 hz7))
     refine bodyPost_ret (results_cell_row rfl _ _ _ 39 _ (0,0) _ rfl hn7 Tryz.underlying39 rfl info34) rfl ?_
     exact⟨by rw[HY.out],hB7.grown hg7 hB7.size (fun k9 hk9=>by cases hk9;omega)⟩
    ·have hb:((numT x).k==4)=false:=by simpa using hb
     rw[hb]
     go_wp2_with fail
     go_roundw
     case rel=>
      refine⟨K+1,by omega,HL5.out,fun i z hi hz=> ?_⟩
      rcases(by omega:i<K∨i=K)with h|rfl
      ·exact HN.out i z h hz
      ·rw[HXx.out]at hz;injection hz with hz;subst hz
       rw[HQ.out];unfold badL;rw[hconv,hb,Bool.and_false]
     case measure=>rw[hi5,hpos];omega
   ·by_cases q116:q=116
    ·subst q116
     have hconv:convL 116 x=txtT x:=rfl
     have hqv:((116:UInt8).toNat:Int)=116:=rfl
     rw[hqv]at hnx
     go_wp2_with (refine wpList_load34at rfl rfl rfl rfl hel ?_)
     refine(totxt_one x W2 HXp.out heE.1).mono ?_
     rintro e3 w3 ⟨rfl,hB3⟩
     obtain⟨W4,hrun,hl4⟩:=(HL2.out.call hB3).store (inL_len _ _ _).symm (k:=K) (by rw[inL_len];exact hlt) (txtT x)
     have HL4:Hid (LetAt w W4 cs bi g' base S (K+1) xs.length cap (inL how xs (K+1))):=by
      have e:=inL_succ (hs:=how) HXx.out
      rw[HQ.out,hconv]at e
      rw[e]at hl4;exact hl4
     have hin:(inL how xs (K+1))[K]? =some (txtT x):=by
      rw[inL_at HXx.out,if_pos (Nat.lt_succ_self K),HQ.out,hconv]
     clear hl4
     go_wp2_with (first|refine wpList_storev rfl rfl rfl rfl hrun ?_|refine wpList_load34atg (by rfl) rfl rfl rfl (vr_cells HL4.out.row hin) ?_)
     refine(isfault_any (txtT x) (pcs (txtT x)) _ rfl (pcs_one _)).mono ?_
     rintro e5 w5 ⟨rfl,hB5⟩
     have HL5:=Lib.hid (HL4.out.call hB5)
     have hi5:w5.iterPos bi=K+1:=by unfold World.iterPos;rw[HL5.out.it]
     by_cases hb:((txtT x).k==4)=true
     ·rw[hb]
      have hvy:=HL5.out.res
      have hB7:=HL5.out.below
      have hrow:=vr_cells HL5.out.row hin
      have HY:Hid (y=txtT x):=by
       have:=HBD.out K x HXx.out (by rw[HQ.out];unfold badL;rw[hconv,hb];rfl) (fun j z hj hz=>HN.out j z hj hz)
       rw[this,HQ.out];exact hconv
      go_wp2_with (first|refine wpList_load34at rfl rfl rfl rfl hrow ?_|(refine wpList_store34 rfl rfl rfl rfl hvy (by rfl) (pcs_one _) ?_;intro w7 hn7 hg7 hz7))
      refine bodyPost_ret (results_cell_row rfl _ _ _ 39 _ (0,0) _ rfl hn7 Tryz.underlying39 rfl info34) rfl ?_
      exact⟨by rw[HY.out],hB7.grown hg7 hB7.size (fun k9 hk9=>by cases hk9;omega)⟩
     ·have hb:((txtT x).k==4)=false:=by simpa using hb
      rw[hb]
      go_wp2_with fail
      go_roundw
      case rel=>
       refine⟨K+1,by omega,HL5.out,fun i z hi hz=> ?_⟩
       rcases(by omega:i<K∨i=K)with h|rfl
       ·exact HN.out i z h hz
       ·rw[HXx.out]at hz;injection hz with hz;subst hz
        rw[HQ.out];unfold badL;rw[hconv,hb,Bool.and_false]
      case measure=>rw[hi5,hpos];omega
    ·by_cases q98:q=98
     ·subst q98
      have hconv:convL 98 x=truT x:=rfl
      have hqv:((98:UInt8).toNat:Int)=98:=rfl
      rw[hqv]at hnx
      go_wp2_with (refine wpList_load34at rfl rfl rfl rfl hel ?_)
      refine(totru_one x W2 HXp.out heE.1).mono ?_
      rintro e3 w3 ⟨rfl,hB3⟩
      obtain⟨W4,hrun,hl4⟩:=(HL2.out.call hB3).store (inL_len _ _ _).symm (k:=K) (by rw[inL_len];exact hlt) (truT x)
      have HL4:Hid (LetAt w W4 cs bi g' base S (K+1) xs.length cap (inL how xs (K+1))):=by
       have e:=inL_succ (hs:=how) HXx.out
       rw[HQ.out,hconv]at e
       rw[e]at hl4;exact hl4
      have hin:(inL how xs (K+1))[K]? =some (truT x):=by
       rw[inL_at HXx.out,if_pos (Nat.lt_succ_self K),HQ.out,hconv]
      clear hl4
      go_wp2_with (first|refine wpList_storev rfl rfl rfl rfl hrun ?_|refine wpList_load34atg (by rfl) rfl rfl rfl (vr_cells HL4.out.row hin) ?_)
      refine(isfault_any (truT x) (pcs (truT x)) _ rfl (pcs_one _)).mono ?_
      rintro e5 w5 ⟨rfl,hB5⟩
      have HL5:=Lib.hid (HL4.out.call hB5)
      have hi5:w5.iterPos bi=K+1:=by unfold World.iterPos;rw[HL5.out.it]
      by_cases hb:((truT x).k==4)=true
      ·rw[hb]
       have hvy:=HL5.out.res
       have hB7:=HL5.out.below
       have hrow:=vr_cells HL5.out.row hin
       have HY:Hid (y=truT x):=by
        have:=HBD.out K x HXx.out (by rw[HQ.out];unfold badL;rw[hconv,hb];rfl) (fun j z hj hz=>HN.out j z hj hz)
        rw[this,HQ.out];exact hconv
       go_wp2_with (first|refine wpList_load34at rfl rfl rfl rfl hrow ?_|(refine wpList_store34 rfl rfl rfl rfl hvy (by rfl) (pcs_one _) ?_;intro w7 hn7 hg7 hz7))
       refine bodyPost_ret (results_cell_row rfl _ _ _ 39 _ (0,0) _ rfl hn7 Tryz.underlying39 rfl info34) rfl ?_
       exact⟨by rw[HY.out],hB7.grown hg7 hB7.size (fun k9 hk9=>by cases hk9;omega)⟩
      ·have hb:((truT x).k==4)=false:=by simpa using hb
       rw[hb]
       go_wp2_with fail
       go_roundw
       case rel=>
        refine⟨K+1,by omega,HL5.out,fun i z hi hz=> ?_⟩
        rcases(by omega:i<K∨i=K)with h|rfl
        ·exact HN.out i z h hz
        ·rw[HXx.out]at hz;injection hz with hz;subst hz
         rw[HQ.out];unfold badL;rw[hconv,hb,Bool.and_false]
       case measure=>rw[hi5,hpos];omega
     ·obtain rfl:q=118:=by
       rcases HQ4.out with h|h|h|h
       ·exact absurd h q110
       ·exact absurd h q116
       ·exact absurd h q98
       ·exact h
      have hconv:convL 118 x=x:=rfl
      have hqv:((118:UInt8).toNat:Int)=118:=rfl
      rw[hqv]at hnx
      have HL5:Hid (LetAt w W2 cs bi g' base S (K+1) xs.length cap (inL how xs (K+1))):=by
       have e:=inL_same (hs:=how) HXx.out (by rw[HQ.out,hconv])
       rw[e];exact HL2.out
      clear hel heE q110 q116 q98
      go_wp2_with fail
      go_roundw
      case rel=>
       refine⟨K+1,by omega,HL5.out,fun i z hi hz=> ?_⟩
       rcases(by omega:i<K∨i=K)with h|rfl
       ·exact HN.out i z h hz
       ·rw[HXx.out]at hz;injection hz with hz;subst hz
        rw[HQ.out];rfl
      case measure=>rw[hi2,hpos];omega
  ·obtain rfl:K=xs.length:=by omega
   have hnx:=fun ty=>Lib.run_next_end_at (P:=Tryz.prog) wr bi S xs.length ty HL.out.it (by omega)
   have f3:=HL.out.box.cell HF.out
   go_wp2_with fail
   have hB9:=HL.out.below
   have hsz9:=hB9.size
   have hrl:g'<wr.heap.size:=Nat.lt_trans HL.out.lt2 (Array.getElem?_eq_some_iff.1 HL.out.it).1
   refine(HO.out (fun i x hx=>HN.out i x (List.getElem?_eq_some_iff.1 hx).1 hx) wr base g' cap hB9 HL.out.row hrl).mono ?_
   rintro e9 w9 ⟨rfl,hB8⟩
   have hvy:=HL.out.res.below hB8 HL.out.res.lt
   have hB7:=hB9.trans (hB8.mono hB9.size)
   go_wp2_with (refine wpList_store34 rfl rfl rfl rfl hvy (by rfl) (pcs_one _) ?_;intro w7 hn7 hg7 hz7)
   refine bodyPost_ret (results_cell_row rfl _ _ _ 39 _ (0,0) _ rfl hn7 Tryz.underlying39 rfl info34) rfl ?_
   exact⟨rfl,hB7.grown hg7 hB7.size (fun k9 hk9=>by cases hk9;omega)⟩
end Go.Proofs.YtmhfioimgllgeaaGreatDoor
namespace Go.Proofs.YtmhfioimgllgeaaGreatDoor
open Go Go.RowKit Go.Shelf
theorem set_same' {C:Array Value} {k:Nat} {v:Value} (h:C[k]? =some v):C.setIfInBounds k v=C:=by
 obtain⟨hk,e⟩:=Array.getElem?_eq_some_iff.1 h
 apply Array.ext (by simp)
 intro i h1 h2
 rw[Array.getElem_setIfInBounds]
 split
 ·rename_i e2;subst e2;exact e.symm
 ·rfl
set_option maxRecDepth 100000 in
set_option maxHeartbeats 8000000 in
theorem copiedF_plain (x:Vl) (w:World):Calls Tryz.prog 47 #[.agg (pcs x)] w (Gives (.agg (pcs x)) w):=by
 have HC92:=Lib.hid (show ∀W,Calls Tryz.prog 92 #[nilS] W (fun e w'=>e= .returned nilS∧w'=W)from fun W=>(AnyE.slices_Clone_nil Tryz.laysF92 0 0 W).mono fun e w' h=>h)
 have HC93:=Lib.hid (show ∀W,Calls Tryz.prog 93 #[nilS] W (fun e w'=>e= .returned nilS∧w'=W)from fun W=>(AnyE.slices_Clone_nil Tryz.laysF93 0 0 W).mono fun e w' h=>h)
 have HC94:=Lib.hid (show ∀W,Calls Tryz.prog 94 #[nilS] W (fun e w'=>e= .returned nilS∧w'=W)from fun W=>(AnyE.slices_Clone_nil Tryz.laysF94 0 0 W).mono fun e w' h=>h)
 have HO:Hid (OneC (pcs x)):=Lib.hid (pcs_one x)
 obtain⟨C,hC⟩:∃C,pcs x=C:=⟨_,rfl⟩
 have X8:Hid (C[8]? =some nilS):=Lib.hid (by rw[←hC];rfl)
 have X10:Hid (C[10]? =some nilS):=Lib.hid (by rw[←hC];rfl)
 have X11:Hid (C[11]? =some nilS):=Lib.hid (by rw[←hC];rfl)
 rw[hC]at HO⊢
 clear hC
 have a90:∀f:Field,([f]:List Field)[0]? =some f:=fun _=>rfl
 have a91:∀f g:Field,([f,g]:List Field)[0]? =some f:=fun _ _=>rfl
 obtain⟨W,hW⟩:∃W,W=(w.alloc (.cells C 39)).alloc (.cells vz 39):=⟨_,rfl⟩
 have hvx:World.vb W w.heap.size C:=by rw[hW];exact(World.vb_new w C).alloc _
 have hvy:World.vb W (w.heap.size+1) vz:=by rw[hW];exact World.vb_new' _ _ _ (by simp)
 have hB:Below w.heap.size w W:=by rw[hW];exact((Below.refl _ w).alloc (Nat.le_refl _) _).alloc (by simp) _
 go_enter Tryz.func47,Tryz.ntmps47
 go_upto_region 1 with (refine wpList_alloc34 rfl rfl ?_)
 go_simp
 rw[←hW]
 clear hW
 have c8:=hvx.cell X8.out
 have f8:=hvx.frozen 8
 go_wp2_with fail
 refine(HC92.out _).mono ?_
 rintro e1 w1 ⟨rfl,rfl⟩
 go_upto_region 2 with fail
 obtain⟨W1,hW1⟩:∃W1,W1=w1.setCell ⟨w.heap.size,8,none⟩ nilS:=⟨_,rfl⟩
 rw[←hW1]
 have hvx:World.vb W1 w.heap.size C:=by
  rw[hW1]
  have:=hvx.set 8 nilS
  rwa [set_same' X8.out]at this
 have hvy:World.vb W1 (w.heap.size+1) vz:=by rw[hW1];exact hvy.other (by simp) _
 have hB:Below w.heap.size w W1:=by rw[hW1];exact hB.setCell (Nat.le_refl _) _
 clear hW1 c8 f8
 have c8:=hvx.cell X8.out
 go_wp2_with fail
 refine wp_loop_rounds 1 ?_
 rw[rounds_succ]
 have c11:=hvx.cell X11.out
 have f11:=hvx.frozen 11
 go_wp2_with fail
 refine(HC93.out _).mono ?_
 rintro e1 w2 ⟨rfl,rfl⟩
 go_upto_region 8 with fail
 obtain⟨W2,hW2⟩:∃W1,W1=w2.setCell ⟨w.heap.size,11,none⟩ nilS:=⟨_,rfl⟩
 rw[←hW2]
 have hvx:World.vb W2 w.heap.size C:=by
  rw[hW2]
  have:=hvx.set 11 nilS
  rwa [set_same' X11.out]at this
 have hvy:World.vb W2 (w.heap.size+1) vz:=by rw[hW2];exact hvy.other (by simp) _
 have hB:Below w.heap.size w W2:=by rw[hW2];exact hB.setCell (Nat.le_refl _) _
 clear hW2 c8 c11 f11
 have c10:=hvx.cell X10.out
 have f10:=hvx.frozen 10
 go_wp2_with fail
 refine(HC94.out _).mono ?_
 rintro e1 w3 ⟨rfl,rfl⟩
 go_upto_region 9 with fail
 obtain⟨W3,hW3⟩:∃W1,W1=w3.setCell ⟨w.heap.size,10,none⟩ nilS:=⟨_,rfl⟩
 rw[←hW3]
 have hvx:World.vb W3 w.heap.size C:=by
  rw[hW3]
  have:=hvx.set 10 nilS
  rwa [set_same' X10.out]at this
 have hvy:World.vb W3 (w.heap.size+1) vz:=by rw[hW3];exact hvy.other (by simp) _
 have hB:Below w.heap.size w W3:=by rw[hW3];exact hB.setCell (Nat.le_refl _) _
 clear hW3 c10 f10
 have c10:=hvx.cell X10.out
 go_wp2_with fail
 refine wp_loop_rounds 1 ?_
 rw[rounds_succ]
 go_wp2_with (first|refine wpList_load34 rfl rfl rfl hvx HO.out.1 ?_|(refine wpList_store34 rfl rfl rfl rfl hvy (by rfl) HO.out ?_;intro w9 hn9 hg9 hz9))
 refine bodyPost_ret (results_cell_row rfl _ _ _ 39 _ (0,0) _ rfl hn9 Tryz.underlying39 rfl (by rw[HO.out.1];exact info34)) rfl ?_
 exact⟨rfl,hB.grown hg9 hB.size (fun k9 hk9=>by cases hk9;omega)⟩
end Go.Proofs.YtmhfioimgllgeaaGreatDoor
namespace Go.Proofs.YtmhfioimgllgeaaGreatDoor
open Go Go.RowKit Go.Shelf
theorem els_vsAt {xs:List Vl} {g off c:Nat} {w:World} (h:Els xs g off w) (hx:∀x∈xs,plainV x=true) (hl:xs.length≤1000) (hc:xs.length≤c) (hm:c≤maxLen) (hne:xs≠ []) (n:Nat):VsAt (Rp w w.heap.size (n+1)) w w.heap.size (.slice (some ⟨g,off,none⟩) xs.length c) xs:=
 ⟨_,c,rfl,hc,hm,hl,fun e=>absurd e hne,fun i y hi=>⟨g,off,pcs y,rfl,h.1,rfl,rp_plain (hx y (List.mem_of_getElem? hi)),fun j u hj=>h.2 i y hi j u hj⟩⟩
set_option maxHeartbeats 1000000 in
/-- A question of a value's kind. -/
theorem isarr_any (x:Vl) (n:Nat) (v:Value) (w:World) (h:Rp w w.heap.size n x v):Calls Tryz.prog 96 #[v] w (Gives (.bool (x.k==5)) w):=by
 cases n with
 |zero=>exact h.elim
 |succ n=>
 obtain⟨L,Bs,Ps,rfl,_⟩:=id h
 have hO:=h.one
 obtain⟨C,hC⟩:∃C,vcs x L Bs Ps=C:=⟨_,rfl⟩
 have h0:C[0]? =some (.int .i64 x.k):=by rw[←hC];rfl
 rw[hC]at hO⊢
 have hvx:World.vb (w.alloc (.cells C 39)) w.heap.size C:=World.vb_new w C
 have c0:=hvx.cell h0
 have hcl:C.all (·.oneCell')=true:=hO.2
 clear h hC h0
 go_enter Tryz.func96,Tryz.ntmps96
 go_wp2_with fail
 go_ret
 exact⟨rfl,(Below.refl _ w).alloc (Nat.le_refl _) _⟩
theorem enters96 :∀args w,(callFunc 96 args).run Tryz.prog w= .ok (.enter 96 args) w:=enters_of Tryz.func96 (by kernel_rfl) rfl
theorem any_arr {xs:List Vl} (h:∀x∈xs,plainV x=true):(xs.any fun x=>x.k==5)=false:=by
 rw[List.any_eq_false]
 intro x hx
 have:=h x hx
 rcases plain_cases this with e|⟨p,e,_⟩|⟨s,e,_⟩|⟨b,e⟩|⟨n,e,_⟩<;>rw[e]<;>simp[numV,txtV,trV,errV]
theorem plain_rc {x:Vl} (h:plainV x=true):(pcs x)[6]? =some (.int .i64 0)∧(pcs x)[7]? =some (.int .i64 0):=by
 rcases plain_cases h with e|⟨p,e,_⟩|⟨s,e,_⟩|⟨b,e⟩|⟨n,e,_⟩<;>rw[e]<;>exact⟨rfl,rfl⟩
set_option maxRecDepth 100000 in
set_option maxHeartbeats 8000000 in
theorem lift_plain (cs:Array Value) (hcs:OneF cs) (xs:List Vl) (hx:∀x∈xs,plainV x=true) (hne:xs≠ []) (hl:xs.length≤1000) (g off c:Nat) (hc:xs.length≤c) (hm:c≤maxLen) (w:World) (hE:Els xs g off w) (y:Vl)
 (hlet:∀W,Below w.heap.size w W→Calls Tryz.prog 97 #[.agg cs,.slice (some ⟨g,off,none⟩) xs.length c] W (Gives (.agg (pcs y)) W)):
 Calls Tryz.prog 48 #[.agg cs,.slice (some ⟨g,off,none⟩) xs.length c] w (Gives (.agg (pcs y)) w):=by
 have HLT:=Lib.hid hlet
 have HCT:=Lib.hid (show ∀W,Below w.heap.size w W→Calls Tryz.prog 45 #[.slice (some ⟨g,off,none⟩) xs.length c,.func (.func 96) #[] #[]] W (Gives (.bool false) W)from fun W hW=>by
  have:=contains_any 3 96 enters96 (fun x=>x.k==5) xs _ W (fun x v W2 _ _ h=>isarr_any x 3 v W2 h) (els_vsAt (hE.below hW) hx hl hc hm hne 2)
  rwa [any_arr hx]at this)
 have HEL:=Lib.hid (show ∀W,Below w.heap.size w W→Els xs g off W from fun W hW=>hE.below hW)
 have HX:=Lib.hid hx
 have HCS:=Lib.hid hcs
 have hgl:=hE.1
 clear hlet hx hE hcs
 obtain⟨W,hW⟩:∃W,W=(w.alloc (.cells cs 83)).alloc (.cells vz 39):=⟨_,rfl⟩
 have hbx:World.blk W w.heap.size 83 cs:=by rw[hW];unfold World.blk;rw[heap_alloc_old _ _ (by simp)];exact blk_new w 83 cs
 have hvy:World.vb W (w.heap.size+1) vz:=by rw[hW];exact World.vb_new' _ _ _ (by simp)
 have hB:Below w.heap.size w W:=by rw[hW];exact((Below.refl _ w).alloc (Nat.le_refl _) _).alloc (by simp) _
 have hcl:cs.all (·.oneCell')=true:=HCS.out.2
 go_enter Tryz.func48,Tryz.ntmps48
 go_upto_region 1 with (refine wpList_alloc34 rfl rfl ?_)
 go_simp
 rw[←hW]
 clear hW hcl
 go_wp2_with fail
 go_loopw [5,6,18] (fun s5 s6 i wr=>s5= .int .i64 1∧s6= .int .i64 1∧∃K:Nat,i= .int .i64 (K:Int)∧K≤xs.length∧World.blk wr w.heap.size 83 cs∧World.vb wr (w.heap.size+1) vz∧Below w.heap.size w wr) (fun _ _ i _=>xs.length-(intOf i).toNat)
 case atStart=>exact⟨rfl,rfl,0,rfl,Nat.zero_le _,hbx,hvy,hB⟩
 case round=>
  clear hbx hvy hB
  obtain⟨rfl,rfl,K,rfl,hK,hbx,hvy,hB⟩:=hrel
  by_cases hlt:K<xs.length
  ·have hKI:(K:Int)<(xs.length:Int):=by omega
   obtain⟨x,hxK⟩:∃x,xs[K]? =some x:=⟨_,List.getElem?_eq_getElem hlt⟩
   have hel:=(HEL.out wr hB).2 K x hxK
   have hrc:=plain_rc (HX.out x (List.mem_of_getElem? hxK))
   have HR6:=Lib.hid hrc.1
   have HR7:=Lib.hid hrc.2
   clear hxK hrc
   go_upto_region 5 with (first|refine wpList_load34at rfl rfl rfl rfl hel ?_|refine wpList_alloc34 rfl rfl ?_|(refine wpList_store34 rfl rfl rfl rfl (World.vb_new' _ _ _ rfl) (by rfl) (pcs_one _) ?_;intro w1 hn1 hg1 hz1))
   have c6:=hn1.cell HR6.out
   have c7:=hn1.cell HR7.out
   have hsz:=hB.size
   have hbx:=(blk_but (World.blk.below hbx ((Below.refl _ wr).alloc (Nat.le_refl _) (.cells vz 39)) hbx.lt) hg1 (by have:=hbx.lt;omega))
   have hvy:=(vb_but (hvy.alloc (.cells vz 39)) hg1 (by have:=hvy.lt;omega))
   have hB:=(hB.alloc hsz (.cells vz 39)).grown hg1 (by simp;omega) (fun k hk=>by cases hk;exact hsz)
   clear hel hg1 hz1 hn1
   go_quiet (fail)
   go_wp2_with fail
   go_roundw
   case rel=>exact⟨by first|rfl|trivial|simp,by first|rfl|trivial|simp,K+1,by go_num,by omega,hbx,hvy,⟨hB.os,hB.tape,hB.output,hB.size,hB.block⟩⟩
   case measure=>simp[intOf];omega
  ·have hKI:¬(K:Int)<(xs.length:Int):=by omega
   go_wp2_with fail
   refine(HCT.out _ hB).mono ?_
   rintro e2 w2 ⟨rfl,hB2⟩
   have hbx:=hbx.below hB2 hbx.lt
   have hvy:=hvy.below hB2 hvy.lt
   have hB:=hB.trans (hB2.mono hB.size)
   clear hB2
   go_wp2_with (refine wpList_load83 rfl rfl rfl hbx HCS.out.1 ?_)
   refine(HLT.out _ hB).mono ?_
   rintro e3 w3 ⟨rfl,hB3⟩
   have hvy:=hvy.below hB3 hvy.lt
   have hB:=hB.trans (hB3.mono hB.size)
   clear hB3
   go_wp2_with (refine wpList_store34 rfl rfl rfl rfl hvy (by rfl) (pcs_one _) ?_;intro w9 hn9 hg9 hz9)
   refine bodyPost_ret (results_cell_row rfl _ _ _ 39 _ (0,0) _ rfl hn9 Tryz.underlying39 rfl info34) rfl ?_
   exact⟨rfl,hB.grown hg9 hB.size (fun k9 hk9=>by cases hk9;omega)⟩
end Go.Proofs.YtmhfioimgllgeaaGreatDoor
