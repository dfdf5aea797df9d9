/- Three values side by side in one block: made, laid, loaded and stored one by one. -/
import Derived.Test.YtkhohjdakcchdaaGreatDoorBx
import Derived.Laws.CopyRow
namespace Go.Proofs.YtkhohjdakcchdaaGreatDoor
open Go Go.RowKit Go.Shelf
theorem World.blk.alloc {w:World} {g t:Nat} {cs:Array Value} (h:World.blk w g t cs) (o:Obj):World.blk (w.alloc o) g t cs:=by unfold World.blk;rw[heap_alloc_old w o h.lt];exact h
theorem World.blk.grown {w w':World} {g t:Nat} {cs:Array Value} {row:Option Nat} (h:World.blk w g t cs) (hg:w.grownBy w' row) (hne:some g≠row):World.blk w' g t cs:=by unfold World.blk;rw[hg.block g h.lt hne];exact h
theorem World.blk.drew {w:World} {g t:Nat} {cs:Array Value} (h:World.blk w g t cs):World.blk w.drew g t cs:=h
theorem World.blk.cell0 {w:World} {g t:Nat} {cs:Array Value} (h:World.blk w g t cs):∀j u,cs[j]? =some u→w.cell? ⟨g,0+j,none⟩=some u:=fun j u hj=>by rw[Nat.zero_add];exact h.cell hj
/-- A plain value, or an array with its own cells, all in blocks from base on. -/
def In3 (w:World) (base:Nat) (x:Vl) (C:Array Value):Prop:=
 (plainV x=true∧C=pcs x)∨∃r c l L,x=arrV r c l∧rightV 1 (arrV r c l)=true∧C=vcs (arrV r c l) L nilS nilS∧World.vr w base L l
theorem In3.below {w W:World} {base:Nat} {x:Vl} {C:Array Value} (h:In3 w base x C) (hb:Below w.heap.size w W):In3 W base x C:=by
 rcases h with h|⟨r,c,l,L,h1,h2,h3,h4⟩
 ·exact .inl h
 ·exact .inr ⟨r,c,l,L,h1,h2,h3,h4.below hb⟩
theorem In3.grown {w W:World} {base g:Nat} {x:Vl} {C:Array Value} (h:In3 w base x C) (hg:w.grownBy W (some g)) (hlt:g<base):In3 W base x C:=by
 rcases h with h|⟨r,c,l,L,h1,h2,h3,h4⟩
 ·exact .inl h
 ·exact .inr ⟨r,c,l,L,h1,h2,h3,h4.grown hg hlt⟩
theorem In3.at {w:World} {base:Nat} {x:Vl} {C:Array Value} (h:In3 w base x C):At x C w:=by
 rcases h with ⟨h,rfl⟩|⟨r,c,l,L,rfl,h2,rfl,h4⟩
 ·exact at_plain h
 ·exact⟨rp_of_vr h4 h2 (Nat.le_refl _),vr_one h4,.inr ⟨rfl,h2⟩⟩
theorem In3.one {w:World} {base:Nat} {x:Vl} {C:Array Value} (h:In3 w base x C):OneC C:=h.at.one
theorem plain_kr {x:Vl} (h:plainV x=true):0≤x.k∧x.k≤4:=by
 rcases plain_cases h with e|⟨p,e,hr⟩|⟨s,e,hs⟩|⟨b,e⟩|⟨n,e,_⟩<;>subst e
 ·exact⟨Int.le_refl _,by decide⟩
 ·show(0:Int)≤1∧(1:Int)≤4
  decide
 ·show(0:Int)≤2∧(2:Int)≤4
  decide
 ·show(0:Int)≤3∧(3:Int)≤4
  decide
 ·show(0:Int)≤4∧(4:Int)≤4
  decide
theorem val12p {z:Rw} {w:World} (hz:RwOk z):Calls Tryz.prog 12 #[.agg z.c] w (Gives (.agg (pcs z.v)) w):=val_any z.k z.m z.e z.s z.b w hz.k hz.m hz.e hz.s
theorem RawsAt.drop {w:World} {B:Nat} {p:Option Addr} {n c:Nat} {zs:List Rw} (h:RawsAt w B (.slice p n c) zs) (d:Nat) (hd:d≤zs.length) {p':Option Addr} {n' c':Nat}
 (hp:d<zs.length→∀g off,p=some ⟨g,off,none⟩→p'=some ⟨g,off+d*5,none⟩) (hn:n'=zs.length-d):RawsAt w B (.slice p' n' c') (zs.drop d):=by
 obtain⟨q,k,e,hl,H⟩:=h
 injection e with e1 e2 e3
 subst e1
 refine⟨p',c',by rw[List.length_drop,hn],by rw[List.length_drop];omega,fun i z hz=> ?_⟩
 have hlt:i<(zs.drop d).length:=(List.getElem?_eq_some_iff.1 hz).1
 rw[List.length_drop]at hlt
 rw[List.getElem?_drop]at hz
 obtain⟨hok,g,off,e,hg,hc⟩:=H (d+i) z hz
 refine⟨hok,g,off+d*5,hp (by omega) g off e,hg,fun j u hj=> ?_⟩
 have:=hc j u hj
 rw[←this]
 congr 2
 omega
theorem len_raws {B:Nat} {v:Value} {zs:List Rw} {W0:World} (hR:RawsAt W0 B v zs) (W:World):(Builtin.len_ #[26] 3 #[v]).run Tryz.prog W= .ok (.int .i64 (zs.length:Int)) W:=by
 obtain⟨p,c,rfl,_,_⟩:=hR
 kernel_rfl
end Go.Proofs.YtkhohjdakcchdaaGreatDoor
