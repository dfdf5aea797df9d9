/- Merged: Cut, Exact, Nearest, Right, Add, Ops. -/
import Derived.Test.YtmhfioimgllgeaaGreatDoorR01
import Derived.Test.YtmhfioimgllgeaaGreatDoorR06
import Derived.Lib.SliceRun
import Derived.Test.YtmhfioimgllgeaaGreatDoorR05
import Derived.Shelf.Abstract
import Derived.Deep.RegionHeld3
namespace Go.Proofs.YtmhfioimgllgeaaGreatDoor
open Go.RowKit
theorem num_setCells (b:Nat) (s:Bool) (m:Bool):∀(n k:Nat) (f:Nat→Int) (w:World),World.num w b s f m→k+n≤96→
 World.num (w.setCells b (1+k) (List.replicate n (.int .i8 0))) b s (fun i=>if k≤i∧i<k+n then 0 else f i) m
 |0,k,f,w,h,_=>World.num.congr h (fun i _=>by rw[if_neg (by omega)])
 |n+1,k,f,w,h,hk=>by
  have:=num_setCells b s m n (k+1) _ _ (World.num.set h (by omega:k<96) 0) (by omega)
  rw[List.replicate_succ]
  show World.num ((w.setCell ⟨b,1+k,none⟩ (.int .i8 0)).setCells b (1+k+1) _) b s _ m
  rw[Nat.add_assoc]
  refine World.num.congr this (fun i _=> ?_)
  by_cases h1:i=k
  ·subst h1;rw[if_neg (by omega),if_pos rfl,if_pos (by omega)]
  ·by_cases h2:k+1≤i∧i<k+1+n
   ·rw[if_pos h2,if_pos (by omega)]
   ·rw[if_neg h2,if_neg h1,if_neg (by omega)]
theorem setCells_grownBy (b:Nat):∀(vs:List Value) (o:Nat) (w:World),w.grownBy (w.setCells b o vs) (some b)∧(w.setCells b o vs).heap.size=w.heap.size
 | [],_,w=>⟨⟨rfl,rfl,rfl,Nat.le_refl _,fun _ _ _=>rfl⟩,rfl⟩
 |v :: r,o,w=>by
  obtain⟨h1,h2⟩:=setCells_grownBy b r (o+1) (w.setCell ⟨b,o,none⟩ v)
  have h0:w.grownBy (w.setCell ⟨b,o,none⟩ v) (some b):=⟨rfl,rfl,rfl,by simp,fun k _ hk=>heap_setCell_other w _ k v (fun e=>hk (by rw[e]))⟩
  exact⟨⟨h1.os.trans h0.os,h1.tape.trans h0.tape,h1.output.trans h0.output,Nat.le_trans h0.size h1.size,fun k hk hne=>(h1.block k (by simpa using hk) hne).trans (h0.block k hk hne)⟩,h2.trans (by simp)⟩
theorem len54 :Tryz.prog.arrayLen 103=96:=by kernel_rfl
theorem und54 :Tryz.prog.underlying 103=some (.array (Tryz.prog.arrayLen 103) (Tryz.prog.elem 103)):=by kernel_rfl
theorem sizeE54 (w:World):(sizeOf (Tryz.prog.elem 103)).run Tryz.prog w= .ok 1 w:=by kernel_rfl
theorem run_slice54 (w:World) (b k:Nat) (hk:k≤96):(Instr.sliceAt 103 (.pointer (some ⟨b,1,none⟩)) none (some (.int .i64 k)) none).run Tryz.prog w= .ok (.slice (some ⟨b,1,none⟩) k 96) w:=by
 rw[run_sliceAt_array_h w 103 ⟨b,1,none⟩ und54 .i64 k (by omega) (by rw[len54];omega),sizeE54,len54]
 simp[Result.andThen,slicedAt,Addr.add]
section
variable {ops : Array Oper} {rest : List Oper} {o : Oper} {a : Act} {w : World} {Q : Exit → Act → World → Prop}
theorem wpList_slice54 {x h:Operand} {b k:Nat} (hgd:o.guard=none) (ho:o.op= .slice 103 x none (some h) none) (hx:a.eval x= .pointer (some ⟨b,1,none⟩)) (hh:a.eval h= .int .i64 k) (hk:k≤96)
 (hK:wpList Tryz.prog ops Q rest (a.put o.dst (.slice (some ⟨b,1,none⟩) k 96)) w):wpList Tryz.prog ops Q (o :: rest) a w:=
 wpList_plain hgd fun K hK'=>by
  have hz:=run_slice54 w b k hk
  unfold Oper.wp execOp
  simp only[ho,Option.map_some,Option.map_none,hx,hh,Sem.run_bind,hz,Sem.run_pure,Result.andThen_ok]
  exact hK' _ _ hK
theorem wpList_clear56 {x:Operand} {b k c:Nat} {s:Bool} {f:Nat→Int} {m:Bool} (hgd:o.guard=none) (ho:o.op= .call {callee:= .builtin .clear,args:= #[x],argTypes:= #[45]}) (hx:a.eval x= .slice (some ⟨b,1,none⟩) k c) (hk0:1≤k) (hk:k≤96)
 (hn:World.num w b s f m) (hK:∀w1,World.num w1 b s (fun i=>if i<k then 0 else f i) m→w.grownBy w1 (some b)→w1.heap.size=w.heap.size→wpList Tryz.prog ops Q rest (a.put o.dst (.tuple #[])) w1):wpList Tryz.prog ops Q (o :: rest) a w:=
 wpList_plain hgd fun K hK'=>by
  have hr:=Lib.run_clear_slice (P:=Tryz.prog) w 45 47 o.type (.int .i8 0) Tryz.underlying45 Tryz.zeroValue47 rfl rfl b 1 k c hk0 (fun j hj=>by rw[(World.num.at hn j (by omega)).1];rfl) (fun j hj=>(World.num.at hn j (by omega)).2)
  unfold Oper.wp execOp
  simp only[ho,resolve,invoke,builtin,Sem.run_bind,Sem.run_pure,Result.andThen_ok,List.map_toArray,List.map_cons,List.map_nil,hx,hr]
  refine hK' _ _ (hK _ ?_ (setCells_grownBy _ _ _ _).1 (setCells_grownBy _ _ _ _).2)
  have:=num_setCells b s m k 0 f w hn (by omega)
  exact World.num.congr this (fun i _=>by simp)
end
/-- What cut leaves. -/
def CutPost (b:Nat) (s:Bool) (D:Nat) (w:World) (e:Ending) (w':World):Prop:=e= .returned (.tuple #[])∧World.num w' b s (dg D) false∧w.grownBy w' (some b)
set_option maxRecDepth 100000 in
set_option maxHeartbeats 1000000 in
theorem cut_f (b:Nat) (s m:Bool) (D k:Nat) (w:World) (hx:World.num w b s (dg D) m) (k0:1≤k) (k1:k≤96):
 Calls Tryz.prog 60 #[.pointer (some ⟨b,0,none⟩),.int .i64 k,.bool false] w (CutPost b s (D / 10 ^ k*10 ^ k) w):=by
 go_enter Tryz.func60,Tryz.ntmps60
 go_wp2_with (first|refine wpList_slice54 rfl rfl rfl rfl k1 ?_|(refine wpList_clear56 rfl rfl rfl k0 k1 hx ?_;intro w1 hx1 hg1 hz1;have hc1:=hx1.more;have hf1:=hx1.frozen 97))
 refine wp_loop_once ?_
 go_wp2
 go_end0
 refine⟨rfl,World.num.congr (World.num.setMore hx1 false) (fun i _=> ?_),?_⟩
 ·rw[dg_cut];rfl
 ·exact⟨hg1.os,hg1.tape,hg1.output,by simp[hz1],fun j hj hne=>(heap_setCell_other _ _ j _ (fun e=>hne (by rw[e]))).trans (hg1.block j hj hne)⟩
set_option maxRecDepth 100000 in
set_option maxHeartbeats 1000000 in
theorem cut_t (b:Nat) (s m:Bool) (D k:Nat) (w:World) (hx:World.num w b s (dg D) m) (k0:1≤k) (k1:k≤96) (hb:Hid ((D / 10 ^ k+1)*10 ^ k<10 ^ 96)):
 Calls Tryz.prog 60 #[.pointer (some ⟨b,0,none⟩),.int .i64 k,.bool true] w (CutPost b s ((D / 10 ^ k+1)*10 ^ k) w):=by
 go_enter Tryz.func60,Tryz.ntmps60
 go_wp2_with (first|refine wpList_slice54 rfl rfl rfl rfl k1 ?_|(refine wpList_clear56 rfl rfl rfl k0 k1 hx ?_;intro w1 hx1 hg1 hz1;have hc1:=hx1.more;have hf1:=hx1.frozen 97))
 have hx2:=World.num.setMore hx1 false
 have hg2:w.grownBy (w1.setCell ⟨b,97,none⟩ (.bool false)) (some b):=⟨hg1.os,hg1.tape,hg1.output,by simp[hz1],fun j hj hne=>(heap_setCell_other _ _ j _ (fun e=>hne (by rw[e]))).trans (hg1.block j hj hne)⟩
 clear hx1 hg1 hz1 hc1 hf1 hx
 go_loopw [6] (fun i wr=>∃K:Nat,i= .int .i64 K∧k≤K∧K≤96∧Hid ((D / 10 ^ k+1)*10 ^ k=(D / 10 ^ K+1)*10 ^ K)∧World.num wr b s (cutTo (dg D) K) false∧w.grownBy wr (some b)) (fun i _=>96-(intOf i).toNat)
 case atStart=>exact⟨k,rfl,Nat.le_refl _,k1,rfl,hx2,hg2⟩
 case round=>
  obtain⟨K,rfl,j0,j1,HK,hn,hg⟩:=hrel
  clear hx2 hg2
  have hlt:K<96:=carry_lt (D:=D) (by rw[←HK.out];exact hb.out)
  obtain⟨hc,hf⟩:=World.num.at hn K hlt
  rw[show cutTo (dg D) K K=dg D K by unfold cutTo;rw[if_neg (by omega)]]at hc
  have d0:=dg_nonneg D K
  have d1:=dg_le D K
  go_wp2
  have hltI:(K:Int)<96:=by omega
  refine wp_region_still_tail 10 (by kernel_rfl) (by kernel_rfl) ?_
  change wpStill _ _ wr.drew _ _ _
  simp only[List.take_succ_cons,List.take_zero,List.drop_succ_cons,List.drop_zero]
  iterate 10 still_step
  refine wpStill_nil ?_
  change wpList _ _ _ _ _ wr.drew
  have hS:World.num (wr.setCell ⟨b,1+K,none⟩ (.int .i8 (dg D K+1))) b s (fun j=>if j=K then dg D K+1 else cutTo (dg D) K j) false:=World.num.set hn hlt _
  have hcS:(wr.setCell ⟨b,1+K,none⟩ (.int .i8 (dg D K+1))).cell? ⟨b,1+K,none⟩=some (.int .i8 (dg D K+1)):=by rw[World.num.dig hS hlt,if_pos rfl]
  have hfS:=hS.frozen (1+K)
  by_cases h9:dg D K=9
  ·have c1:¬dg D K+1<10:=by omega
   have hk9:=Lib.hid h9
   go_wp2_with fail
   go_roundw
   case rel=>
    refine⟨K+1,by go_num,by omega,by omega,?_,?_,?_⟩
    ·show _=_;rw[HK.out,carry_nine D K hk9.out]
    ·refine World.num.drew (World.num.congr (World.num.set (World.num.set hn hlt 10) hlt 0) (fun i _=> ?_))
     unfold cutTo
     by_cases e:i=K
     ·rw[if_pos e,if_pos (by omega)]
     ·rw[if_neg e,if_neg e]
      by_cases e2:i<K
      ·rw[if_pos e2,if_pos (by omega)]
      ·rw[if_neg e2,if_neg (by omega)]
    ·exact⟨hg.os,hg.tape,hg.output,by simp;exact hg.size,fun j hj hne=>((heap_setCell_other _ _ j _ (fun e=>hne (by rw[e]))).trans (heap_setCell_other _ _ j _ (fun e=>hne (by rw[e])))).trans (hg.block j hj hne)⟩
   case measure=>first|(simp[intOf];done)|(simp[intOf];omega)
  ·have c1:dg D K+1<10:=by omega
   have h9:=Lib.hid h9
   go_wp2_with fail
   refine bodyPost_ret (results_none rfl _ _ _) rfl ?_
   refine⟨rfl,World.num.drew (World.num.congr hS (fun i _=> ?_)),?_⟩
   ·rw[HK.out,dg_carry D K i h9.out]
   ·exact⟨hg.os,hg.tape,hg.output,by simp;exact hg.size,fun j hj hne=>(heap_setCell_other _ _ j _ (fun e=>hne (by rw[e]))).trans (hg.block j hj hne)⟩
end Go.Proofs.YtmhfioimgllgeaaGreatDoor
namespace Go.Proofs.YtmhfioimgllgeaaGreatDoor
open Go.RowKit
/-- Block b holds a decimal. -/
def World.dec (w:World) (b:Nat) (M E:Int):Prop:=w.heap[b]? =some (.cells #[.int .i64 M,.int .i64 E] 34 (0,0))
section
variable {w w' : World} {b : Nat} {M E : Int}
theorem World.dec.c0 (h:World.dec w b M E):w.cell? ⟨b,0,none⟩=some (.int .i64 M):=by rw[cell_of_row w b 0 _ _ _ h];rfl
theorem World.dec.c1 (h:World.dec w b M E):w.cell? ⟨b,1,none⟩=some (.int .i64 E):=by rw[cell_of_row w b 1 _ _ _ h];rfl
theorem World.dec.frozen (h:World.dec w b M E) (o:Nat):w.frozen? ⟨b,o,none⟩=false:=frozen_of_row w b o _ _ h
theorem World.dec.lt (h:World.dec w b M E):b<w.heap.size:=(Array.getElem?_eq_some_iff.1 h).1
theorem World.dec.set0 (h:World.dec w b M E) (v:Int):World.dec (w.setCell ⟨b,0,none⟩ (.int .i64 v)) b v E:=by unfold World.dec;rw[heap_setCell_same w b 0 _ 34 _ h];rfl
theorem World.dec.set1 (h:World.dec w b M E) (v:Int):World.dec (w.setCell ⟨b,1,none⟩ (.int .i64 v)) b M v:=by unfold World.dec;rw[heap_setCell_same w b 1 _ 34 _ h];rfl
theorem World.dec.other (h:World.dec w b M E) {a:Addr} (hne:b≠a.block) (v:Value):World.dec (w.setCell a v) b M E:=by unfold World.dec;rw[heap_setCell_other w a b v hne];exact h
theorem World.dec.alloc (h:World.dec w b M E) (o:Obj):World.dec (w.alloc o) b M E:=by unfold World.dec;rw[heap_alloc_old w o h.lt];exact h
theorem World.dec.drew (h:World.dec w b M E):World.dec w.drew b M E:=h
theorem World.dec.drewN (h:World.dec w b M E) (n:Nat):World.dec (w.drewN n) b M E:=h
theorem World.dec.below {B:Nat} (h:World.dec w b M E) (hb:Below B w w') (hlt:b<B):World.dec w' b M E:=by unfold World.dec;rw[hb.block b hlt];exact h
theorem World.dec_new (w:World) (M E:Int) (n:Nat) (hn:n=w.heap.size):World.dec (w.alloc (.cells #[.int .i64 M,.int .i64 E] 34)) n M E:=by subst hn;exact heap_alloc_new w _
end
def cellInt (w:World) (b o:Nat):Int:=match w.cell? ⟨b,o,none⟩with|some v=>intOf v|none=>0
theorem cellInt_eq {w:World} {b o:Nat} {k:IntKind} {n:Int} (h:w.cell? ⟨b,o,none⟩=some (.int k n)):cellInt w b o=n:=by unfold cellInt;rw[h];rfl
abbrev decV (p:Int×Int):Value:= .agg #[.int .i64 p.1,.int .i64 p.2]
set_option maxRecDepth 100000 in
set_option maxHeartbeats 1000000 in
theorem exact_any (b:Nat) (s m:Bool) (D k:Nat) (t:Int) (w:World) (hx:World.num w b s (dg D) m) (k0:39≤k) (k1:k≤57) (t0: -1≤t) (t1:t≤95) (ht:Hid (D<10 ^ (t+1).toNat)) (hM:Hid (D / 10 ^ k<10 ^ 15)):
 Calls Tryz.prog 113 #[.pointer (some ⟨b,0,none⟩),.int .i64 t,.int .i64 k] w fun e w'=>e= .returned (decV (decOf s (D / 10 ^ k) ((k:Int)-48)))∧Below w.heap.size w w':=by
 go_enter Tryz.func113,Tryz.ntmps113
 go_wp2
 obtain⟨W,hW⟩:∃W,W=(w.alloc (.cells #[.int .i64 0,.int .i64 0] 34)).alloc (.cells #[.int .i64 0,.int .i64 0] 34):=⟨_,rfl⟩
 rw[←hW]
 have d0:World.dec W w.heap.size 0 0:=by rw[hW];exact(World.dec_new w 0 0 _ rfl).alloc _
 have d1:World.dec W (w.heap.size+1) 0 0:=by rw[hW];exact World.dec_new _ 0 0 _ (by simp)
 have hB:Below w.heap.size w W:=by rw[hW];exact((Below.refl _ w).alloc (Nat.le_refl _) _).alloc (by simp) _
 clear hW
 have hbl:=hx.lt
 go_loopw [8] (fun i wr=>∃j:Nat,i= .int .i64 ((j:Int)-1)∧(j:Int)-1≤t∧Hid (k≤j∨(j:Int)-1=t)∧World.dec wr (w.heap.size+1) ((D / 10 ^ j:Nat):Int) 0∧World.dec wr w.heap.size 0 0∧Below w.heap.size w wr) (fun i _=>(intOf i+1).toNat)
 case atStart=>
  refine⟨(t+1).toNat,by congr 1;omega,by omega,.inr (by omega),?_,d0,hB⟩
  rw[Nat.div_eq_of_lt ht.out];exact d1
 case round=>
  obtain⟨j,rfl,j0,hj,e1,e0,hBr⟩:=hrel
  clear d0 d1 hB
  by_cases c:(k:Int)≤(j:Int)-1
  ·obtain⟨i,rfl⟩:∃i,j=i+1:=⟨j-1,by omega⟩
   rw[show ((i+1:Nat):Int)-1=(i:Int) by omega]at*
   have hn:World.num wr b s (dg D) m:=World.num.below hx hBr hbl
   obtain⟨hc,hf⟩:=World.num.at hn i (by omega)
   have c0:=e1.c0
   have f0:=e1.frozen 0
   have hiI:(i:Int)<96:=by omega
   have hq:=dg_nonneg D i
   have hq2:=dg_le D i
   have HD:=Lib.hid (div_take D i)
   have hle:D / 10 ^ i≤D / 10 ^ k:=Nat.div_le_div_left (Nat.pow_le_pow_right (by decide) (by omega)) (pow10_pos k)
   have hbd:D / 10 ^ (i+1)≤99999999999999:=by have h1:=HD.out;have h2:=hM.out;rw[show (10:Nat) ^ 15=1000000000000000 from by decide]at h2;omega
   clear hle
   obtain⟨X,hX⟩:∃X:Int,X=((D / 10 ^ (i+1):Nat):Int):=⟨_,rfl⟩
   rw[←hX]at c0
   have x0:0≤X:=hX▸Int.natCast_nonneg _
   have x1:X≤99999999999999:=by rw[hX];exact Int.ofNat_le.2 hbd
   have HX:=Lib.hid hX
   clear hX hbd
   go_wp2
   refine wp_region_still_tail 12 (by kernel_rfl) (by kernel_rfl) ?_
   change wpStill _ _ wr.drew _ _ _
   simp only[List.take_succ_cons,List.take_zero,List.drop_succ_cons,List.drop_zero]
   iterate 12 still_step
   refine wpStill_nil ?_
   change wpList _ _ _ _ _ wr.drew
   go_wp2_with fail
   go_roundw
   case rel=>
    refine⟨i,rfl,by omega,.inl (by omega),?_,World.dec.drew (World.dec.other e0 (by simp) _),(hBr.setCell (by simp) _).drew⟩
    have h:=World.dec.drew (World.dec.set0 e1 (10*X+dg D i))
    have hv:10*X+dg D i=((D / 10 ^ i:Nat):Int):=by rw[HX.out];exact HD.out
    rw[hv]at h⊢
    exact h
   case measure=>first|(simp[intOf];done)|(simp[intOf];omega)
  ·have hjk:D / 10 ^ j=D / 10 ^ k:=by
    rcases hj.out with h|h
    ·rw[show j=k by omega]
    ·have h2:=ht.out
     rw[show (t+1).toNat=j by omega]at h2
     rw[Nat.div_eq_of_lt h2,Nat.div_eq_of_lt (Nat.lt_of_lt_of_le h2 (Nat.pow_le_pow_right (by decide) (by omega)))]
   rw[hjk]at e1
   obtain⟨Y,hY⟩:∃Y:Int,Y=((D / 10 ^ k:Nat):Int):=⟨_,rfl⟩
   rw[←hY]at e1
   have y0:0≤Y:=hY▸Int.natCast_nonneg _
   have y1:Y≤999999999999999:=by have h2:=hM.out;rw[show (10:Nat) ^ 15=1000000000000000 from by decide]at h2;rw[hY];omega
   have HY:=Lib.hid hY
   clear hjk hY
   have hn:World.num wr b s (dg D) m:=World.num.below hx hBr hbl
   have g0:=e0.c0
   have g1:=e0.c1
   have gf0:=e0.frozen 0
   have gf1:=e0.frozen 1
   have a0:=e1.c0
   have a1:=e1.c1
   have af0:=e1.frozen 0
   have af1:=e1.frozen 1
   by_cases hz:Y=0
   ·have hz0:(Y==0)=true:=by simp[hz]
    have hz:=Lib.hid hz
    go_wp2
    refine bodyPost_ret (results_cell_row rfl _ _ _ 34 _ (0,0) _ rfl (World.dec.set1 (World.dec.set0 e0 0) 0) Tryz.underlying34 rfl (by kernel_rfl)) rfl ?_
    refine⟨?_,(hBr.setCell (by simp) _).setCell (by simp) _⟩
    have:D / 10 ^ k=0:=by have h1:=hz.out;have h2:=HY.out;omega
    rw[this];rfl
   ·have hz0:(Y==0)=false:=by simp[hz]
    have hz:=Lib.hid hz
    go_wp2
    have e2:=World.dec.set1 e1 ((k:Int)-48)
    have e3:World.dec (wr.setCell ⟨w.heap.size+1,1,none⟩ (.int .i64 ((k:Int)-48))) w.heap.size 0 0:=World.dec.other e0 (by simp) _
    have hB2:Below w.heap.size w (wr.setCell ⟨w.heap.size+1,1,none⟩ (.int .i64 ((k:Int)-48))):=hBr.setCell (by simp) _
    clear e0 e1 hBr hn g0 g1 gf0 gf1 a0 a1 af0 af1
    go_loopw [35] (fun _ wr=>∃(M:Nat) (E:Int),(M:Int)≤999999999999999∧ -9≤E∧E≤9∧Hid (M≠0∧strip (9-E).toNat M E=strip (9-((k:Int)-48)).toNat (D / 10 ^ k) ((k:Int)-48))∧World.dec wr (w.heap.size+1) M E∧World.dec wr w.heap.size 0 0∧Below w.heap.size w wr) (fun _ wr=>(9-cellInt wr (w.heap.size+1) 1).toNat)
    case atStart=>
     refine⟨D / 10 ^ k,(k:Int)-48,?_,by omega,by omega,⟨fun h=>hz.out (by rw[HY.out,h];rfl),rfl⟩,?_,e3,hB2⟩
     ·rw[←HY.out];exact y1
     ·rw[←HY.out];exact e2
    case round=>
     obtain⟨M,E,m1,e4,e5,HS,f1,f0,hBr⟩:=hrel
     clear e2 e3 hB2
     have a0:=f1.c0
     have a1:=f1.c1
     have af0:=f1.frozen 0
     have af1:=f1.frozen 1
     by_cases c:M%10=0∧E<9
     ·obtain⟨c1,c2⟩:=c
      have c1':((M:Int)%10==0)=true:=by simp;omega
      have c1:=Lib.hid c1
      go_wp2
      go_roundw
      case rel=>
       refine⟨M / 10,E+1,by omega,by omega,by omega,⟨?_,?_⟩,?_,World.dec.other (World.dec.other f0 (by simp) _) (by simp) _,(hBr.setCell (by simp) _).setCell (by simp) _⟩
       ·have h1:=HS.out.1;have h2:=c1.out;omega
       ·rw[←HS.out.2,strip_step c1.out c2 rfl];congr 1;omega
       ·have h:=World.dec.set1 (World.dec.set0 f1 ((M:Int) / 10)) (E+1)
        rw[Int.natCast_ediv];exact h
      case measure=>
       rw[cellInt_eq (World.dec.c1 (World.dec.set1 (World.dec.set0 f1 ((M:Int) / 10)) (E+1))),cellInt_eq a1];omega
     ·have hn:World.num wr b s (dg D) m:=World.num.below hx hBr hbl
      have hs:=hn.sign
      have g0:=f0.c0
      have g1:=f0.c1
      have gf0:=f0.frozen 0
      have gf1:=f0.frozen 1
      have hres:Hid (decOf s (D / 10 ^ k) ((k:Int)-48)=(if s then -(M:Int)else(M:Int),E)):=by
       show _=_
       unfold decOf
       rw[if_neg (fun h=>hz.out (by rw[HY.out,h];rfl)),←HS.out.2,strip_stop c]
      have hm0:(M:Int)≠0:=by have:=HS.out.1;omega
      have hm0:=Lib.hid hm0
      have hcase:((M:Int)%10==0)=false∨((M:Int)%10==0)=true∧¬E<9:=by
       by_cases h:M%10=0
       ·right;exact⟨by simp;omega,fun h2=>c ⟨h,h2⟩⟩
       ·left;simp;omega
      clear c
      rcases hcase with hc1|⟨hc1,hc2⟩
      all_goals
       cases s
       ·go_wp2
        refine bodyPost_ret (results_cell_row rfl _ _ _ 34 _ (0,0) _ rfl (World.dec.set1 (World.dec.set0 f0 (M:Int)) E) Tryz.underlying34 rfl (by kernel_rfl)) rfl ?_
        refine⟨?_,(hBr.setCell (by simp) _).setCell (by simp) _⟩
        rw[hres.out];rfl
       ·go_wp2
        refine bodyPost_ret (results_cell_row rfl _ _ _ 34 _ (0,0) _ rfl (World.dec.set1 (World.dec.set0 (World.dec.other f0 (by simp) _) (-(M:Int))) E) Tryz.underlying34 rfl (by kernel_rfl)) rfl ?_
        refine⟨?_,((hBr.setCell (by simp) _).setCell (by simp) _).setCell (by simp) _⟩
        rw[hres.out];rfl
end Go.Proofs.YtmhfioimgllgeaaGreatDoor
namespace Go.Proofs.YtmhfioimgllgeaaGreatDoor
open Go.RowKit
theorem rest_i (b:Nat) (s:Bool) (D:Nat) (m:Bool) (k:Int) (w:World) (hx:World.num w b s (dg D) m) (k0:1≤k) (k1:k≤96):
 Calls Tryz.prog 61 #[.pointer (some ⟨b,0,none⟩),.int .i64 k] w fun e w'=>e= .returned (.int .i64 (restD D m k.toNat))∧w'=w:=by
 obtain⟨n,rfl⟩:=Int.eq_ofNat_of_zero_le (by omega:0≤k)
 exact rest_any b s (dg D) m n w hx (by omega) (by omega)
theorem cut_i (b:Nat) (s m:Bool) (D:Nat) (k:Int) (up:Bool) (w:World) (hx:World.num w b s (dg D) m) (k0:39≤k) (k1:k≤57) (hD:Hid (D+10 ^ 57<10 ^ 96)) (hu:Hid (upB D m k.toNat=up)):
 Calls Tryz.prog 60 #[.pointer (some ⟨b,0,none⟩),.int .i64 k,.bool up] w (CutPost b s (quo D m k.toNat*10 ^ k.toNat) w):=by
 obtain⟨n,rfl⟩:=Int.eq_ofNat_of_zero_le (by omega:0≤k)
 have hq:=quo_lt m hD.out (show n≤57 by omega)
 rw[Int.toNat_natCast]at*
 unfold quo at hq⊢
 rw[hu.out]at hq⊢
 cases up
 ·exact cut_f b s m D n w hx (by omega) (by omega)
 ·exact cut_t b s m D n w hx (by omega) (by omega) hq
theorem World.dec.grown {w w':World} {b:Nat} {M E:Int} {row:Option Nat} (h:World.dec w b M E) (hg:w.grownBy w' row) (hne:some b≠row):World.dec w' b M E:=by
 unfold World.dec;rw[hg.block b h.lt hne];exact h
theorem nearF_hit {s:Bool} {D:Nat} {m:Bool} {E:Int} (h:E≤9) (hq:quo D m (48+E).toNat<10 ^ 15):nearF s D m (10-E).toNat E=(decOf s (quo D m (48+E).toNat) E,0):=by
 obtain⟨n,hn⟩:∃n,(10-E).toNat=n+1:=⟨(9-E).toNat,by omega⟩
 rw[hn,nearF,if_pos hq]
theorem nearF_miss {s:Bool} {D:Nat} {m:Bool} {E:Int} (h:E≤9) (hq:¬quo D m (48+E).toNat<10 ^ 15):nearF s D m (10-E).toNat E=nearF s D m (10-(E+1)).toNat (E+1):=by
 obtain⟨n,hn⟩:∃n,(10-E).toNat=n+1:=⟨(9-E).toNat,by omega⟩
 rw[hn,nearF,if_neg hq,show(10-(E+1)).toNat=n by omega]
/-- What near leaves. -/
def DecPost (r:(Int×Int)×Int) (w:World) (e:Ending) (w':World):Prop:=e= .returned (.tuple #[decV r.1,.int .i64 r.2])∧Below w.heap.size w w'
theorem exact_i (b:Nat) (s m:Bool) (q:Nat) (k t:Int) (w:World) (hx:World.num w b s (dg (q*10 ^ k.toNat)) m) (k0:39≤k) (k1:k≤57) (t0: -1≤t) (t1:t≤95) (ht:Hid (q*10 ^ k.toNat<10 ^ (t+1).toNat)) (hM:Hid (q<10 ^ 15)):
 Calls Tryz.prog 113 #[.pointer (some ⟨b,0,none⟩),.int .i64 t,.int .i64 k] w fun e w'=>e= .returned (decV (decOf s q (k-48)))∧Below w.heap.size w w':=by
 obtain⟨n,rfl⟩:=Int.eq_ofNat_of_zero_le (by omega:0≤k)
 rw[Int.toNat_natCast]at*
 have e:=Nat.mul_div_cancel q (pow10_pos n)
 have:=exact_any b s m (q*10 ^ n) n t w hx (by omega) (by omega) t0 t1 ht (by show _<_;rw[e];exact hM.out)
 rw[e]at this
 exact this
theorem results_dec_tmp {fn:Func} {p u:Tmp} (h:fn.results= #[.cell p 34,.tmp u]) (tmps:Array Value) (w:World) (g:Nat) (M E:Int) (hp:tmps.getD p undef= .pointer (some ⟨g,0,none⟩)) (hd:World.dec w g M E):
 (results fn tmps).run Tryz.prog w= .ok (.tuple #[decV (M,E),tmps.getD u undef]) w:=by
 rw[results_cell_tmp h,hp]
 have:=run_loadVar_row (P:=Tryz.prog) w g 34 34 _ (0,0) _ hd Tryz.underlying34 rfl (by kernel_rfl)
 simp only[asAddr,Sem.run_pure,Result.andThen_ok,this]
set_option maxRecDepth 100000 in
set_option maxHeartbeats 2000000 in
theorem nearest_any (s:Bool) (D:Nat) (m:Bool) (w:World) (hD:Hid (D+10 ^ 57<10 ^ 96)):
 Calls Tryz.prog 78 #[.agg (numF s (dg D) m)] w (DecPost (near s D m) w):=by
 go_enter Tryz.func78,Tryz.ntmps78
 go_wp2_with fail
 obtain⟨W,hW⟩:∃W,W=(w.alloc (.cells (numF s (dg D) m) 105)).alloc (.cells #[.int .i64 0,.int .i64 0] 34):=⟨_,rfl⟩
 rw[←hW]
 have hn:World.num W w.heap.size s (dg D) m:=by rw[hW];exact(World.num_new _ _ _ _).alloc _
 have hd:World.dec W (w.heap.size+1) 0 0:=by rw[hW];exact World.dec_new _ 0 0 _ (by simp)
 have hB:Below w.heap.size w W:=by rw[hW];exact((Below.refl _ w).alloc (Nat.le_refl _) _).alloc (by simp) _
 have hz:w.heap.size+2≤W.heap.size:=by rw[hW];simp
 clear hW
 go_loopw [4] (fun e wr=>∃E:Int,e= .int .i64 E∧ -9≤E∧E≤10∧Hid (nearF s D m (10-E).toNat E=near s D m)∧World.num wr w.heap.size s (dg D) m∧World.dec wr (w.heap.size+1) 0 0∧Below w.heap.size w wr∧w.heap.size+2≤wr.heap.size) (fun e _=>(10-intOf e).toNat)
 case atStart=>exact⟨-9,rfl,by omega,by omega,rfl,hn,hd,hB,hz⟩
 case round=>
  obtain⟨E,rfl,e0,e1,HN,hn1,hd1,hB1,hz1⟩:=hrel
  clear hn hd hB hz
  by_cases c:E≤9
  ·go_wp2_with (first
    |refine wpList_alloc56 rfl rfl ?_
    |refine wpList_load56 rfl rfl rfl hn1 ?_
    |(refine wpList_store56 rfl rfl rfl rfl (World.num_new _ _ _ _) ?_;intro w1 hn2 hg2 hz2))
   have hs:=hn1.lt
   have hd2:World.dec w1 (w.heap.size+1) 0 0:=World.dec.below (hd1.alloc _) (Below.grown (Below.refl wr.heap.size _) hg2 (by simp) (fun k hk=>by cases hk;exact Nat.le_refl _)) (by omega)
   have hB2:Below w.heap.size w w1:=(hB1.alloc hB1.size _).grown hg2 (by have:=hB1.size;simp;omega) (fun k hk=>by cases hk;exact hB1.size)
   have hn3:World.num w1 w.heap.size s (dg D) m:=World.num.grown (hn1.alloc _) hg2 (by simp;omega)
   have hz3:w.heap.size+2<w1.heap.size:=by rw[hz2];simp;omega
   have hlt:wr.heap.size<w1.heap.size:=by rw[hz2];simp
   clear hg2 hz2 hs
   refine(rest_i _ s D m _ _ hn2 (by omega) (by omega)).mono ?_
   rintro e w2 ⟨rfl,rfl⟩
   obtain⟨r,hr⟩:∃r:Int,r=restD D m (48+E).toNat:=⟨_,rfl⟩
   rw[←hr]
   have Hr:=Lib.hid hr
   clear hr
   have hk:(48+E).toNat<96:=by omega
   obtain⟨hc,hf⟩:=World.num.at hn2 (48+E).toNat hk
   have q0:=dg_nonneg D (48+E).toNat
   have hkI:48+E<96:=by omega
   have hup:(r==1)=true∧Hid (upB D m (48+E).toNat=true)∨(r==1)=false∧(r==0)=false∧Hid (upB D m (48+E).toNat=false)∨
    (r==1)=false∧(r==0)=true∧(dg D (48+E).toNat%2==1)=true∧Hid (upB D m (48+E).toNat=true)∨(r==1)=false∧(r==0)=true∧(dg D (48+E).toNat%2==1)=false∧Hid (upB D m (48+E).toNat=false):=by
    unfold Hid upB
    rw[←Hr.out]
    cases h1:(r==1)<;>cases h2:(r==0)<;>cases h3:(dg D (48+E).toNat%2==1)<;>simp
   rcases hup with ⟨h1,hu⟩|⟨h1,h2,hu⟩|⟨h1,h2,h3,hu⟩|⟨h1,h2,h3,hu⟩
   all_goals
    go_wp2_with fail
    refine(cut_i _ s m D _ _ _ hn2 (by omega) (by omega) hD hu).mono ?_
    rintro e w3 ⟨rfl,hn4,hg4⟩
    have hn5:World.num w3 w.heap.size s (dg D) m:=World.num.grown hn3 hg4 (by simp;omega)
    have hd3:World.dec w3 (w.heap.size+1) 0 0:=World.dec.grown hd2 hg4 (by simp;omega)
    have hB3:Below w.heap.size w w3:=hB2.grown hg4 hB2.size (fun k hk=>by cases hk;exact hB1.size)
    have hz4:w.heap.size+2<w3.heap.size:=Nat.lt_of_lt_of_le hz3 hg4.size
    clear hg4 hn3 hd2 hB2 hz3 hn2 hc hf
    obtain⟨t,t0,t1,t2,t3⟩:=top_exists 96 (quo D m (48+E).toNat*10 ^ (48+E).toNat) (quo_lt m hD.out (by omega))
    have hq:=top_lt t2 t3
    have T2:=Lib.hid t2
    have T3:=Lib.hid t3
    have HQ:=Lib.hid hq
    clear hq t2 t3
    go_wp2_with fail
    refine(top_any _ s _ false t _ hn4 t0 (by omega) (fun k _ hk=>top_hi T2.out k hk) (top_at T2.out T3.out)).mono ?_
    rintro e w4 ⟨rfl,rfl⟩
    by_cases h15:quo D m (48+E).toNat<10 ^ 15
    ·have hlt15:t<48+E+15:=by have:=HQ.out.2 h15;omega
     have H15:=Lib.hid h15
     clear h15
     go_wp2_with fail
     refine(exact_i _ s false _ _ t _ hn4 (by omega) (by omega) t0 (by omega) T2 H15).mono ?_
     rintro e w5 ⟨rfl,hB5⟩
     have hd5:=World.dec.below hd3 hB5 hd3.lt
     have g0:=hd5.c0
     have g1:=hd5.c1
     have gf0:=hd5.frozen 0
     have gf1:=hd5.frozen 1
     go_wp2_with fail
     refine bodyPost_ret (results_dec_tmp rfl _ _ _ _ _ rfl (World.dec.set1 (World.dec.set0 hd5 _) _)) rfl ?_
     refine⟨?_,((hB3.trans (hB5.mono hB3.size)).setCell (by simp) _).setCell (by simp) _⟩
     rw[←HN.out,nearF_hit c H15.out,show 48+E-48=E by omega];rfl
    ·have hlt15:¬t<48+E+15:=by have:=mt HQ.out.1 h15;omega
     have H15:=Lib.hid h15
     clear h15
     go_wp2_with fail
     go_roundw
     case rel=>exact⟨E+1,rfl,by omega,by omega,by show _=_;rw[←nearF_miss c H15.out];exact HN.out,hn5,hd3,hB3,by omega⟩
     case measure=>first|(simp[intOf];done)|(simp[intOf];omega)
  ·have g0:=hd1.c0
   have g1:=hd1.c1
   have gf0:=hd1.frozen 0
   have gf1:=hd1.frozen 1
   obtain rfl:E=10:=by omega
   go_wp2_with fail
   refine bodyPost_ret (results_dec_tmp rfl _ _ _ 0 0 rfl (World.dec.set1 (World.dec.set0 hd1 0) 0)) rfl ?_
   refine⟨?_,(hB1.setCell (by simp) _).setCell (by simp) _⟩
   rw[←HN.out];rfl
end Go.Proofs.YtmhfioimgllgeaaGreatDoor
namespace Go.Proofs.YtmhfioimgllgeaaGreatDoor
open Go.RowKit
def rightB (M E:Int):Bool:=decide (-999999999999999≤M∧M≤999999999999999∧ -9≤E∧E≤9∧(M=0∧E=0∨M≠0∧(M%10≠0∨E=9)))
theorem rightB_iff {M E:Int}:rightB M E=true↔(-999999999999999≤M∧M≤999999999999999∧ -9≤E∧E≤9∧(M=0∧E=0∨M≠0∧(M%10≠0∨E=9))):=by simp[rightB]
set_option maxHeartbeats 1000000 in
theorem right_any (M E:Int) (w:World) (h0: -9223372036854775808≤M) (h1:M≤9223372036854775807):
 Calls Tryz.prog 58 #[.agg #[.int .i64 M,.int .i64 E]] w fun e w'=>e= .returned (.bool (rightB M E))∧Below w.heap.size w w':=by
 have HT:=Lib.hid (show M.tmod 10=0↔M%10=0 from by rw[←Int.dvd_iff_tmod_eq_zero,Int.dvd_iff_emod_eq_zero])
 go_enter Tryz.func58,Tryz.ntmps58
 go_wp2_with (go_at_call 76;refine(abs_any _ _ (by omega) (by omega)).mono ?_;rintro e w' ⟨rfl,rfl⟩)
 all_goals
  go_ret
  refine⟨ret_bool ?_,(Below.refl _ _).alloc (Nat.le_refl _) _⟩
  have ht:=HT.out
  rw[Bool.eq_iff_iff,rightB_iff]
  (try simp only[beq_iff_eq,bne_iff_ne,ne_eq,Bool.and_eq_true,Bool.false_eq_true,false_iff,true_iff])
  omega
set_option maxHeartbeats 1000000 in
theorem greater_any (b b':Nat) (s s':Bool) (f g:Nat→Int) (m m':Bool) (w:World) (hx:World.num w b s f m) (hy:World.num w b' s' g m'):
 Calls Tryz.prog 82 #[.pointer (some ⟨b,0,none⟩),.pointer (some ⟨b',0,none⟩)] w fun e w'=>e= .returned (.bool (gtF f g 96))∧∃n,w'=w.drewN n:=by
 go_enter Tryz.func82,Tryz.ntmps82
 go_wp2
 go_loopw [5] (fun k wr=>∃K:Nat,k= .int .i64 ((K:Int)-1)∧K≤96∧Hid (gtF f g K=gtF f g 96)∧∃n,wr=w.drewN n) (fun k _=>(intOf k+1).toNat)
 case atStart=>exact⟨96,rfl,by omega,rfl,0,rfl⟩
 case round=>
  obtain⟨K,rfl,j0,HK,n0,rfl⟩:=hrel
  cases K with
  |zero=>
   go_wp2
   go_ret
   exact⟨ret_bool HK.out,n0,rfl⟩
  |succ k=>
   rw[show ((k+1:Nat):Int)-1=(k:Int) by omega]
   have hc:=(World.num.at hx k (by omega)).1
   have hd:=(World.num.at hy k (by omega)).1
   have hkI:(k:Int)<96:=by omega
   by_cases h:f k=g k
   ·have hb:(f k != g k)=false:=by simp[h]
    have HE:Hid (gtF f g k=gtF f g 96):=by show _=_;rw[←HK.out,gtF,if_pos h]
    clear h
    go_wp2_with fail
    go_quiet (fail)
    go_wp2_with fail
    go_roundw
    case rel=>exact⟨k,rfl,by omega,HE,_,rfl⟩
    case measure=>first|(simp[intOf];done)|(simp[intOf];omega)
   ·have hb:(f k != g k)=true:=by simpa using h
    have HE:Hid (decide (g k<f k)=gtF f g 96):=by show _=_;rw[←HK.out,gtF,if_neg h]
    clear h
    go_wp2_with fail
    go_quiet (fail)
    go_wp2_with fail
    go_quiet (fail)
    go_wp2_with fail
    go_ret
    refine⟨ret_bool HE.out,?_⟩
    simp only[World.drewN_drewN]
    exact⟨_,rfl⟩
end Go.Proofs.YtmhfioimgllgeaaGreatDoor
namespace Go.Proofs.YtmhfioimgllgeaaGreatDoor
open Go.RowKit Go.Shelf
theorem layD_lt {M E:Int} (h:rightB M E=true):layD M E<10 ^ 72:=by
 obtain⟨r1,r2,r3,r4,_⟩:=rightB_iff.1 h
 unfold layD
 calc M.natAbs*10 ^ (48+E).toNat<10 ^ 15*10 ^ (48+E).toNat:=Nat.mul_lt_mul_of_pos_right (by rw[show (10:Nat) ^ 15=1000000000000000 from by decide];omega) (pow10_pos _)
  _≤10 ^ 15*10 ^ 57:=Nat.mul_le_mul_left _ (Nat.pow_le_pow_right (by decide) (by omega))
  _=10 ^ 72:=by rw[←Nat.pow_add]
end Go.Proofs.YtmhfioimgllgeaaGreatDoor
namespace Go.Proofs.YtmhfioimgllgeaaGreatDoor
open Go.RowKit Go.Shelf
section
variable {o : Oper} {a : Act} {w : World} {K : Act → World → Prop} {Q : Exit → Act → World → Prop}
theorem op_alloc56 (ho:o.op= .alloc 105) (h:K (a.put o.dst (.pointer (some ⟨w.heap.size,0,none⟩))) (w.alloc (.cells (numF false z96 false) 105))):o.wp Tryz.prog a w K Q:=by
 have hz:=zero56 w
 unfold Oper.wp execOp
 simp[ho,Instr.alloc,Sem.run_bind,hz,newVar,newRow,newObj,Value.cells]
 exact h
theorem op_store56 {x y:Operand} {g:Nat} {s s':Bool} {f f':Nat→Int} {m m':Bool} (ho:o.op= .store 105 x y) (hx:a.eval x= .pointer (some ⟨g,0,none⟩)) (hy:a.eval y= .agg (numF s' f' m'))
 (hn:World.num w g s f m) (h:∀w1,World.num w1 g s' f' m'→w.grownBy w1 (some g)→w1.heap.size=w.heap.size→K (a.put o.dst undef) w1):o.wp Tryz.prog a w K Q:=
 wp_store_row 105 x y ho g _ hx hy 105 _ hn (info56' s' f' m') (by rw[numF_size,numF_size]) (numF_one _ _ _) (h _ (World.num.setRow hn _ _) (setRow_grownBy _ _ _) (by simp))
end
end Go.Proofs.YtmhfioimgllgeaaGreatDoor
