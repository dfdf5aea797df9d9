/- Merged: Uni, Vst. -/
import Derived.Test.YtmhfioimgllgeaaGreatDoorR26
import Derived.Test.YtmhfioimgllgeaaGreatDoorR24
import Derived.Test.YtmhfioimgllgeaaGreatDoorR27
import Derived.Test.YtmhfioimgllgeaaGreatDoorR17
import Derived.Test.YtmhfioimgllgeaaGreatDoorR28
import Derived.Test.YtmhfioimgllgeaaGreatDoorR29
import Derived.Test.YtmhfioimgllgeaaGreatDoorR30
import Derived.Test.YtmhfioimgllgeaaGreatDoorR31
import Derived.RangeFuncNested
import Derived.RangeFuncBound
import Derived.RangeFuncCalls
import Derived.RangeFuncLeaves
import Derived.Shelf.Abstract
import Derived.Shelf.RegionOpen
import Derived.OwnWalkIn
import Derived.TacticsInMore
import Derived.LoopNIn
import Derived.LoopIn
import Derived.WalkMore
import Derived.ControlIn
import Derived.Maps.OwnIn
import Derived.Maps.AppendAt
import Derived.Lib.Replace
import Derived.Laws.IdiomCopy
namespace Go.Proofs.YtmhfioimgllgeaaGreatDoor
open Go Go.RowKit Go.Shelf
/-- Twelve cells that say a plain value, or an array of plain values. -/
def At (x:Vl) (C:Array Value) (w:World):Prop:=Rp w w.heap.size 3 x (.agg C)∧OneC C∧ArrP x
theorem At.below {x:Vl} {C:Array Value} {w W:World} (h:At x C w) (hb:Below w.heap.size w W):At x C W:=⟨h.1.below hb hb.size,h.2.1,h.2.2⟩
theorem At.one {x:Vl} {C:Array Value} {w:World} (h:At x C w):OneC C:=h.2.1
/-- The library's tables lie as the text lays them. -/
def Env (w:World):Prop:=Lib.Utf8Tabs 2 3 w∧Shp w
theorem Env.below {w W:World} (h:Env w) (hb:Below w.heap.size w W):Env W:=⟨tabs_below h.1 hb,h.2.below hb⟩
def HandsV (x:Vl) (w:World) (e:Ending) (w':World):Prop:=∃C,e= .returned (.agg C)∧At x C w'∧Below w.heap.size w w'
theorem at_plain {x:Vl} {w:World} (h:plainV x=true):At x (pcs x) w:=⟨rp_plain h,pcs_one x,.inl h⟩
theorem handsV_plain {x:Vl} {w:World} (h:plainV x=true) {e:Ending} {w':World} (hg:Gives (.agg (pcs x)) w e w'):HandsV x w e w':=⟨_,hg.1,at_plain h,hg.2⟩
theorem arrP_cases {x:Vl} (h:ArrP x) {w:World} {B n:Nat} {v:Value} (hx:Rp w B (n+1) x v):plainV x=true∨∃r c l,x=arrV r c l∧∀m,rightV (m+1) (arrV r c l)=true:=by
 have hn:=h.nice hx
 have hr:=h.right
 cases hn with
 |plain h=>exact .inl h
 |arr h=>exact .inr ⟨_,_,_,rfl,hr⟩
theorem At.cases {x:Vl} {C:Array Value} {w:World} (h:At x C w):plainV x=true∨∃r c l,x=arrV r c l∧∀m,rightV (m+1) (arrV r c l)=true:=arrP_cases h.2.2 h.1
theorem same26 {x y:Vl} {C D:Array Value} {w:World} (h:At x C w) (h':At y D w) (e:x=y):Calls Tryz.prog 21 #[.agg C,.agg D] w (Gives (.bool true) w):=by
 refine(same_any 3 x y _ _ w h.1 h'.1).mono ?_
 rintro _ w' ⟨b,rfl,hb,hB⟩
 rw[hb.2 e];exact⟨rfl,hB⟩
theorem right27 {x:Vl} {C:Array Value} {w:World} (h:At x C w) (he:Env w):Calls Tryz.prog 19 #[.agg C] w (Gives (.bool true) w):=by
 have:=right27_any 1 x _ w h.1 (h.2.2.nice h.1) he.1
 rw[h.2.2.right 2]at this
 exact this
theorem get_plain {r c i j:Int} {l:List Vl} (h:rightV 3 (arrV r c l)=true) (hi:0≤i) (hj:0≤j):plainV (getV 3 (arrV r c l) i j)=true:=by
 rw[get_arr h hi hj]
 split
 ·exact plain_err (by decide) (by decide)
 ·rename_i hn
  obtain⟨hd,hl⟩:=right_arr.1 h
  have:=at_lt hi hj hn
  rw[List.getD_eq_getElem?_getD,List.getElem?_eq_getElem (by omega)]
  exact hl _ (List.getElem_mem _)
/-- A block of cells of whatever type. -/
def World.blk (w:World) (g t:Nat) (cs:Array Value):Prop:=w.heap[g]? =some (.cells cs t (0,0))
theorem World.blk.lt {w:World} {g t:Nat} {cs:Array Value} (h:World.blk w g t cs):g<w.heap.size:=(Array.getElem?_eq_some_iff.1 h).1
theorem World.blk.below {w w':World} {B g t:Nat} {cs:Array Value} (h:World.blk w g t cs) (hb:Below B w w') (hlt:g<B):World.blk w' g t cs:=by unfold World.blk;rw[hb.block g hlt];exact h
theorem World.blk.cell {w:World} {g t:Nat} {cs:Array Value} (h:World.blk w g t cs) {j:Nat} {u:Value} (hj:cs[j]? =some u):w.cell? ⟨g,j,none⟩=some u:=by rw[cell_of_row w g j _ _ _ h,hj]
theorem blk_new (w:World) (t:Nat) (cs:Array Value):World.blk (w.alloc (.cells cs t)) w.heap.size t cs:=heap_alloc_new w _
/-- The cells of a list of plain values, from an address on. -/
def Els (l:List Vl) (g off:Nat) (w:World):Prop:=g<w.heap.size∧∀i y,l[i]? =some y→∀j u,(pcs y)[j]? =some u→w.cell? ⟨g,off+i*12+j,none⟩=some u
theorem Els.below {l:List Vl} {g off:Nat} {w W:World} (h:Els l g off w) (hb:Below w.heap.size w W):Els l g off W:=
 ⟨Nat.lt_of_lt_of_le h.1 hb.size,fun i y hy j u hj=>(hb.cell (p:=⟨g,_,none⟩) h.1).trans (h.2 i y hy j u hj)⟩
theorem At.arr {r c:Int} {l:List Vl} {C:Array Value} {w:World} (h:At (arrV r c l) C w) (hr:rightV 3 (arrV r c l)=true):
 ∃g off k,C=vcs (arrV r c l) (.slice (some ⟨g,off,none⟩) l.length k) nilS nilS∧Els l g off w:=by
 obtain⟨p,k,e,hl,_⟩:=arr_cells h.1
 injection e with e
 obtain⟨p',c',e',_,_,_,_,H⟩:=hl
 injection e' with e1 _ _
 have hne:=arr_ne hr
 have hpl:=(right_arr.1 hr).2
 obtain⟨y0,hy0⟩:∃y,l[0]? =some y:=⟨_,List.getElem?_eq_getElem (List.length_pos_iff.2 hne)⟩
 obtain⟨g,off,cs,e2,hg,_,_,_⟩:=H 0 y0 hy0
 refine⟨g,off,k,by rw[e,e1,e2],hg,fun i y hy j u hj=> ?_⟩
 obtain⟨g',off',cs',e3,_,_,hR,hc⟩:=H i y hy
 rw[e2]at e3
 injection e3 with e3
 injection e3 with e4 e5
 subst e4 e5
 have:=plain_cells hR (hpl _ (List.mem_of_getElem? hy))
 injection this with this
 subst this
 exact hc j u hj
theorem yields34a {a:Act} {o:Oper} {w:World} {x:Operand} {g off:Nat} {cs:Array Value} (ho:o.op= .load 39 x) (hx:a.eval x= .pointer (some ⟨g,off,none⟩)) (hs:cs.size=12) (hc:∀j u,cs[j]? =some u→w.cell? ⟨g,off+j,none⟩=some u):(execOp a.eval o).run Tryz.prog w= .ok (.value (.agg cs)) w:=by
 have:=run_load_at w g off 39 cs _ hc Tryz.underlying39 rfl (by rw[hs];exact info34)
 unfold execOp
 simp only[ho,hx,Instr.loadAt,Instr.sureAddr,Sem.run_bind,Sem.run_pure,Result.andThen_ok,this]
end Go.Proofs.YtmhfioimgllgeaaGreatDoor
namespace Go.Proofs.YtmhfioimgllgeaaGreatDoor
open Go Go.RowKit Go.Shelf
/-- Cells from a place on are others. -/
def setR :List Value→Nat→List Value→List Value
 |l,_,[]=>l
 |l,o,v :: r=>setR (l.set o v) (o+1) r
theorem setR_len :∀(vs l:List Value) (o:Nat),(setR l o vs).length=l.length
 | [],_,_=>rfl
 |v :: r,l,o=>by rw[setR,setR_len r];simp
theorem setR_eq :∀(vs l:List Value) (o:Nat),o+vs.length≤l.length→setR l o vs=l.take o++vs++l.drop (o+vs.length)
 | [],l,o,_=>by simp[setR]
 |v :: r,l,o,h=>by
  simp only[List.length_cons]at h
  rw[setR,setR_eq r _ _ (by simp;omega)]
  have ho:o<l.length:=by omega
  rw[List.set_eq_take_append_cons_drop,if_pos ho]
  have e1:(l.take o).length=o:=by simp;omega
  rw[List.take_append,e1,List.take_of_length_le (by omega),show o+1-o=1 by omega,List.take_succ_cons,List.take_zero]
  rw[List.drop_append,e1,List.drop_eq_nil_of_le (by omega:(l.take o).length≤o+1+r.length),show o+1+r.length-o=r.length+1 by omega,List.drop_succ_cons,List.drop_drop]
  simp[show o+1+r.length=o+(r.length+1) by omega]
theorem heap_setCells (g t:Nat):∀(vs:List Value) (o:Nat) (w:World) (cs:Array Value),w.heap[g]? =some (.cells cs t (0,0))→(w.setCells g o vs).heap[g]? =some (.cells (setR cs.toList o vs).toArray t (0,0))
 | [],_,_,_,h=>by simpa [World.setCells,setR]using h
 |v :: r,o,w,cs,h=>by
  rw[World.setCells]
  have:=heap_setCells g t r (o+1) (w.setCell ⟨g,o,none⟩ v) (cs.setIfInBounds o v) (heap_setCell_same w g o cs t v h)
  rw[this,setR,Array.toList_setIfInBounds]
theorem grown_setCells (g:Nat):∀(vs:List Value) (o:Nat) (w:World),w.grownBy (w.setCells g o vs) (some g)
 | [],_,w=>⟨rfl,rfl,rfl,Nat.le_refl _,fun _ _ _=>rfl⟩
 |v :: r,o,w=>by
  have h1:=grownBy_setCell w ⟨g,o,none⟩ v
  have h2:=grown_setCells g r (o+1) (w.setCell ⟨g,o,none⟩ v)
  exact⟨h2.os.trans h1.os,h2.tape.trans h1.tape,h2.output.trans h1.output,Nat.le_trans h1.size h2.size,fun i hi hne=>(h2.block i (Nat.lt_of_lt_of_le hi h1.size) hne).trans (h1.block i hi hne)⟩
theorem vsC_set :∀(l:List Vl) (k:Nat) (y:Vl),k<l.length→vsC (l.set k y)=(vsC l).take (k*12)++(pcs y).toList++(vsC l).drop (k*12+12)
 | [],_,_,h=>absurd h (by simp)
 |x :: l,0,y,_=>by
  have e1:vsC (x :: l)=(pcs x).toList++vsC l:=rfl
  have e2:vsC (y :: l)=(pcs y).toList++vsC l:=rfl
  rw[List.set_cons_zero,e1,e2]
  simp
  rfl
 |x :: l,k+1,y,h=>by
  have e1:vsC (x :: l)=(pcs x).toList++vsC l:=rfl
  have e2:vsC (x :: l.set k y)=(pcs x).toList++vsC (l.set k y):=rfl
  have h12:(pcs x).toList.length=12:=rfl
  rw[List.set_cons_succ,e1,e2,vsC_set l k y (by simpa using h)]
  rw[List.take_append,h12,List.take_of_length_le (l:=(pcs x).toList) (by rw[h12];omega),show(k+1)*12-12=k*12 by omega]
  have d1:(pcs x).toList.drop ((k+1)*12+12)= []:=List.drop_eq_nil_of_le (by rw[h12];omega)
  rw[List.drop_append,h12,d1,show(k+1)*12+12-12=k*12+12 by omega]
  simp
theorem vr_store {w:World} {base:Nat} {v:Value} {l:List Vl} (h:World.vr w base v l) {k:Nat} (hk:k<l.length) (y:Vl):
 ∃g cap,v= .slice (some ⟨g,0,none⟩) l.length cap∧base≤g∧g<w.heap.size∧(storeCells ⟨g,k*12,none⟩ (pcs y).toList 0).run Tryz.prog w= .ok () (w.setCells g (k*12) (pcs y).toList)∧World.vr (w.setCells g (k*12) (pcs y).toList) base v (l.set k y):=by
 obtain⟨hlen,h|⟨g,cap,cur,rfl,hb,hc,hn,hm,hs,ht⟩⟩:=h
 ·obtain⟨_,h0⟩:=h;omega
 ·have h12:(pcs y).toList.length=12:=rfl
  have hsz:k*12+12≤cur.size:=by rw[hs];have:k+1≤cap:=by omega
                                omega
  refine⟨g,cap,rfl,hb,(Array.getElem?_eq_some_iff.1 hc).1,?_,?_⟩
  ·have:=run_storeCells_cells (P:=Tryz.prog) g (k*12) (pcs y).toList 0 w (fun j hj=>by
    rw[cell_of_row w g _ _ _ _ hc,Array.getElem?_eq_getElem (by rw[h12]at hj;omega)];rfl) (fun j hj=>frozen_of_row w g _ _ _ hc) (fun u hu=>by
    have:=(pcs_one y).2
    rw[Array.all_eq_true_iff_forall_mem]at this
    exact this u (by simpa using hu))
   rwa [Nat.add_zero]at this
  ·refine⟨by rw[vsC_len,List.length_set],.inr ⟨g,cap,_,by rw[List.length_set],hb,heap_setCells g 39 _ _ _ _ hc,by rw[List.length_set];exact hn,hm,?_,?_⟩⟩
   ·rw[List.size_toArray,setR_len];simpa using hs
   ·rw[List.length_set]
    have hcl:cur.toList.length=cap*12:=by simpa using hs
    have h1:k*12+12≤l.length*12:=by omega
    rw[setR_eq _ _ _ (by rw[h12,hcl];have:k+1≤cap:=by omega
                         omega),h12,vsC_set l k y hk,←ht]
    have e1:(cur.toList.take (k*12)).length=k*12:=by rw[List.length_take,hcl];have:k+1≤cap:=by omega
                                                     omega
    rw[List.take_append,List.length_append,e1,h12,List.take_of_length_le (by rw[List.length_append,e1,h12];exact h1),List.take_take,Nat.min_eq_left (by omega),List.drop_take,show l.length*12-(k*12+12)=l.length*12-(k*12+12)from rfl]
end Go.Proofs.YtmhfioimgllgeaaGreatDoor
