/- Merged: Bck, Uni. -/
import Derived.Test.YtkhohjdakcchdaaGreatDoorAwk
import Derived.Test.YtkhohjdakcchdaaGreatDoorLar
namespace Go.Proofs.YtkhohjdakcchdaaGreatDoor
open Go Go.RowKit Go.Shelf
theorem textV_len {x:Vl} (h:plainV x=true):(mk (textV 2 x).1).size≤300:=by
 show(textV 2 x).1.length≤300
 unfold textV
 rw[if_pos (right_of_plain 1 h),if_neg (plain_kind h).2]
 by_cases h2:x.k=2
 ·rw[if_pos h2]
  have:=txt_small (plain_two h h2).2
  rw[Lib.size_eq]at this
  split
  ·show x.s.data.toList.length≤300
   omega
  ·show(39 :: x.s.data.toList).length≤300
   rw[List.length_cons]
   omega
 ·rw[if_neg h2,if_neg (plain_kind h).1]
  show(writL x).length≤300
  rcases plain_cases h with e|⟨p,e,hr⟩|⟨s,e,hs⟩|⟨b,e⟩|⟨n,e,_⟩<;>subst e
  ·exact Nat.zero_le _
  ·show(textD p.1 p.2).1.length≤300
   have:=text_plain (x:=p.1) (y:=p.2) hr
   rw[this.1]
   have:=this.2.2.2
   simp only
   omega
  ·exact absurd rfl h2
  ·cases b<;>decide
  ·have:=errL_len n.toNat
   show(errL n.toNat).length≤300
   omega
end Go.Proofs.YtkhohjdakcchdaaGreatDoor
namespace Go.Proofs.YtkhohjdakcchdaaGreatDoor
open Go Go.RowKit Go.Shelf
/-- Twelve cells that say a plain value, or an array of plain values. -/
def At (x:Vl) (C:Array Value) (w:World):Prop:=Rp w w.heap.size 3 x (.agg C)∧OneC C∧ArrP x
theorem At.below {x:Vl} {C:Array Value} {w W:World} (h:At x C w) (hb:Below w.heap.size w W):At x C W:=⟨h.1.below hb hb.size,h.2.1,h.2.2⟩
theorem At.one {x:Vl} {C:Array Value} {w:World} (h:At x C w):OneC C:=h.2.1
/-- The library's tables lie as the text lays them. -/
def Env (w:World):Prop:=Lib.Utf8Tabs 0 1 w∧Shp w
theorem Env.below {w W:World} (h:Env w) (hb:Below w.heap.size w W):Env W:=⟨tabs_below h.1 hb,h.2.below hb⟩
def HandsV (x:Vl) (w:World) (e:Ending) (w':World):Prop:=∃C,e= .returned (.agg C)∧At x C w'∧Below w.heap.size w w'
theorem at_plain {x:Vl} {w:World} (h:plainV x=true):At x (pcs x) w:=⟨rp_plain h,pcs_one x,.inl h⟩
theorem handsV_plain {x:Vl} {w:World} (h:plainV x=true) {e:Ending} {w':World} (hg:Gives (.agg (pcs x)) w e w'):HandsV x w e w':=⟨_,hg.1,at_plain h,hg.2⟩
theorem handsV_arr {r c:Int} {l:List Vl} {w:World} (hr:rightV 1 (arrV r c l)=true) {e:Ending} {w':World} (hg:HandsA r c l w e w'):HandsV (arrV r c l) w e w':=by
 obtain⟨L,he,hv,hb⟩:=hg
 exact⟨_,he,⟨rp_of_vr hv hr (Nat.le_refl _),vr_one hv,.inr ⟨rfl,hr⟩⟩,hb⟩
theorem arrP_cases {x:Vl} (h:ArrP x) {w:World} {B n:Nat} {v:Value} (hx:Rp w B (n+1) x v):plainV x=true∨∃r c l,x=arrV r c l∧∀m,rightV (m+1) (arrV r c l)=true:=by
 have hn:=h.nice hx
 have hr:=h.right
 cases hn with
 |plain h=>exact .inl h
 |arr h=>exact .inr ⟨_,_,_,rfl,hr⟩
theorem At.cases {x:Vl} {C:Array Value} {w:World} (h:At x C w):plainV x=true∨∃r c l,x=arrV r c l∧∀m,rightV (m+1) (arrV r c l)=true:=arrP_cases h.2.2 h.1
theorem each_handsV {f:Vl→Vl} (hf:∀x,plainV x=true→plainV (f x)=true) {g:Nat} {x:Vl} {C:Array Value} {w:World} (h:At x C w)
 (h1:plainV x=true→Calls Tryz.prog g #[.agg (pcs x)] w (Gives (.agg (pcs (f x))) w))
 (h2:∀r c l,x=arrV r c l→rightV 3 (arrV r c l)=true→Calls Tryz.prog g #[.agg C] w (HandsA r c (l.map f) w)):Calls Tryz.prog g #[.agg C] w (HandsV (eachV 3 f x) w):=by
 rcases h.cases with hp|⟨r,c,l,rfl,hr⟩
 ·rw[each_plain hp]
  have:=plain_cells h.1 hp
  injection this with this
  rw[this]
  exact(h1 hp).mono fun _ _ hg=>handsV_plain (hf x hp) hg
 ·rw[each_arr (hr 2)]
  exact(h2 r c l rfl (hr 2)).mono fun _ _ hg=>handsV_arr (map_right hf (hr 0)) hg
theorem to29 {x:Vl} {C:Array Value} {w:World} (h:At x C w) (he:Env w):Calls Tryz.prog 29 #[.agg C] w (HandsV (eachV 3 numT x) w):=
 each_handsV (fun _=>numT_plain) h (fun hp=>tonum_one x w hp he.1 he.2) (fun r c l e hr=>by subst e;exact tonum_many 1 r c l _ w h.1 hr he.1 he.2)
theorem to30 {x:Vl} {C:Array Value} {w:World} (h:At x C w) (he:Env w):Calls Tryz.prog 30 #[.agg C] w (HandsV (eachV 3 txtT x) w):=
 each_handsV (fun _=>txtT_plain) h (fun hp=>totxt_one x w hp he.1) (fun r c l e hr=>by subst e;exact totxt_many 1 r c l _ w h.1 hr he.1)
theorem to31 {x:Vl} {C:Array Value} {w:World} (h:At x C w) (he:Env w):Calls Tryz.prog 31 #[.agg C] w (HandsV (eachV 3 truT x) w):=
 each_handsV (fun _=>truT_plain) h (fun hp=>totru_one x w hp he.1) (fun r c l e hr=>by subst e;exact totru_many 1 r c l _ w h.1 hr he.1)
theorem arr13 {r c:Int} {zs:List Rw} {v:Value} {w:World} (hr:i64R r) (hc:i64R c) (hz:RawsAt w w.heap.size v zs):Calls Tryz.prog 13 #[.int .i64 r,.int .i64 c,v] w (HandsV (arrOf r c zs) w):=
 (array_any r c zs v w hr hc hz).mono fun _ _ hg=>handsV_arr (arrOf_right 0 r c zs) hg
theorem val12 {z:Rw} {w:World} (hz:RwOk z):Calls Tryz.prog 12 #[.agg z.c] w (HandsV z.v w):=
 (val_any z.k z.m z.e z.s z.b w hz.k hz.m hz.e hz.s).mono fun _ _ hg=>handsV_plain (valP_plain _ _ _ _ _) hg
theorem awk11 {w:World} (he:Env w):Calls Tryz.prog 11 #[] w (Gives (.bool true) w):=awake_any w he.2 he.1
theorem vb_made {W W':World} (hg:(W.alloc (.cells vz 34)).grownBy W' (some W.heap.size)):Below W.heap.size W W':=
 ((Below.refl _ W).alloc (Nat.le_refl _) (.cells vz 34)).grown hg (by simp) (fun k9 hk9=>by cases hk9;exact Nat.le_refl _)
theorem RawsAt.at {w W:World} {B:Nat} {v:Value} {zs:List Rw} (h:RawsAt w B v zs) (hb:Below B w W) (hB:B≤W.heap.size):RawsAt W W.heap.size v zs:=by
 obtain⟨p,c,hv,hl,H⟩:=h.below hb
 exact⟨p,c,hv,hl,fun i z hz=>by
  obtain⟨hok,g,off,e,hg,hc⟩:=H i z hz
  exact⟨hok,g,off,e,Nat.lt_of_lt_of_le hg hB,hc⟩⟩
theorem RawsAt.drew {w:World} {B:Nat} {v:Value} {zs:List Rw} (h:RawsAt w B v zs):RawsAt w.drew B v zs:=h
theorem World.drew_below (w:World):Below w.heap.size w w.drew:=(Below.refl _ w).drew
/-- A block of cells of whatever type. -/
def World.blk (w:World) (g t:Nat) (cs:Array Value):Prop:=w.heap[g]? =some (.cells cs t (0,0))
theorem World.blk.lt {w:World} {g t:Nat} {cs:Array Value} (h:World.blk w g t cs):g<w.heap.size:=(Array.getElem?_eq_some_iff.1 h).1
theorem World.blk.below {w w':World} {B g t:Nat} {cs:Array Value} (h:World.blk w g t cs) (hb:Below B w w') (hlt:g<B):World.blk w' g t cs:=by unfold World.blk;rw[hb.block g hlt];exact h
theorem World.blk.cell {w:World} {g t:Nat} {cs:Array Value} (h:World.blk w g t cs) {j:Nat} {u:Value} (hj:cs[j]? =some u):w.cell? ⟨g,j,none⟩=some u:=by rw[cell_of_row w g j _ _ _ h,hj]
theorem blk_new (w:World) (t:Nat) (cs:Array Value):World.blk (w.alloc (.cells cs t)) w.heap.size t cs:=heap_alloc_new w _
/-- The cells of a list of plain values, from an address on. -/
def Els (l:List Vl) (g off:Nat) (w:World):Prop:=g<w.heap.size∧∀i y,l[i]? =some y→∀j u,(pcs y)[j]? =some u→w.cell? ⟨g,off+i*12+j,none⟩=some u
theorem Els.below {l:List Vl} {g off:Nat} {w W:World} (h:Els l g off w) (hb:Below w.heap.size w W):Els l g off W:=
 ⟨Nat.lt_of_lt_of_le h.1 hb.size,fun i y hy j u hj=>(hb.cell (p:=⟨g,_,none⟩) h.1).trans (h.2 i y hy j u hj)⟩
theorem At.arr {r c:Int} {l:List Vl} {C:Array Value} {w:World} (h:At (arrV r c l) C w) (hr:rightV 3 (arrV r c l)=true):
 ∃g off k,C=vcs (arrV r c l) (.slice (some ⟨g,off,none⟩) l.length k) nilS nilS∧Els l g off w:=by
 obtain⟨p,k,e,hl,_⟩:=arr_cells h.1
 injection e with e
 obtain⟨p',c',e',_,_,_,_,H⟩:=hl
 injection e' with e1 _ _
 have hne:=arr_ne hr
 have hpl:=(right_arr.1 hr).2
 obtain⟨y0,hy0⟩:∃y,l[0]? =some y:=⟨_,List.getElem?_eq_getElem (List.length_pos_iff.2 hne)⟩
 obtain⟨g,off,cs,e2,hg,_,_,_⟩:=H 0 y0 hy0
 refine⟨g,off,k,by rw[e,e1,e2],hg,fun i y hy j u hj=> ?_⟩
 obtain⟨g',off',cs',e3,_,_,hR,hc⟩:=H i y hy
 rw[e2]at e3
 injection e3 with e3
 injection e3 with e4 e5
 subst e4 e5
 have:=plain_cells hR (hpl _ (List.mem_of_getElem? hy))
 injection this with this
 subst this
 exact hc j u hj
theorem yields34a {a:Act} {o:Oper} {w:World} {x:Operand} {g off:Nat} {cs:Array Value} (ho:o.op= .load 34 x) (hx:a.eval x= .pointer (some ⟨g,off,none⟩)) (hs:cs.size=12) (hc:∀j u,cs[j]? =some u→w.cell? ⟨g,off+j,none⟩=some u):(execOp a.eval o).run Tryz.prog w= .ok (.value (.agg cs)) w:=by
 have:=run_load_at w g off 34 cs _ hc Tryz.underlying34 rfl (by rw[hs];exact info34)
 unfold execOp
 simp only[ho,hx,Instr.loadAt,Instr.sureAddr,Sem.run_bind,Sem.run_pure,Result.andThen_ok,this]
end Go.Proofs.YtkhohjdakcchdaaGreatDoor
