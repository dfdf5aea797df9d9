/- Fun's table of functions: what a function value is, what an entry is; a map of entries in memory. -/
import Derived.Test.YtmhfioimgllgeaaGreatDoorR32
import Derived.Maps.OwnSet
import Derived.StringKeys
import Derived.Maps.RangeWalk
namespace Go.Proofs.YtmhfioimgllgeaaGreatDoor
open Go Go.RowKit Go.Maps
/-- A function value: its code; what it has captured lies in boxes: nothing, a function, one value, two, a decimal. -/
inductive Ds where
 |f (g:Nat)
 |c (g:Nat) (d:Ds)
 |i (g:Nat) (u:Value)
 |j (g:Nat) (u u':Value)
 |n (g:Nat) (M E:Int)
def Bx (w:World) (p u:Value):Prop:=∃b t,p= .pointer (some ⟨b,0,none⟩)∧World.blk w b t #[u]
theorem Bx.below {w W:World} {p u:Value} (h:Bx w p u) (hb:Below w.heap.size w W):Bx W p u:=by
 obtain⟨b,t,e,hc⟩:=h
 exact⟨b,t,e,hc.below hb hc.lt⟩
/-- Block g holds neither a box nor a decimal. -/
def Away (w:World) (g:Nat):Prop:=∀cs t,cs.size≤2→w.heap[g]? ≠some (.cells cs t (0,0))
theorem away5 {w:World} {g t:Nat} {cs:Array Value} (h:World.blk w g t cs) (hs:cs.size=5):Away w g:=by
 intro cs' t' hc e
 unfold World.blk at h
 rw[h]at e
 injection e with e
 injection e with e
 rw[e]at hs;omega
theorem blk_away {w W:World} {b g t:Nat} {cs:Array Value} (h:w.heap[b]? =some (.cells cs t (0,0))) (hs:cs.size≤2) (ha:Away w g) (hg:w.grownBy W (some g)):W.heap[b]? =some (.cells cs t (0,0)):=by
 rw[hg.block b (Array.getElem?_eq_some_iff.1 h).1 (by intro e;injection e with e;subst e;exact ha cs t hs h)];exact h
theorem Bx.grown {w W:World} {p u:Value} {g:Nat} (h:Bx w p u) (ha:Away w g) (hg:w.grownBy W (some g)):Bx W p u:=by
 obtain⟨b,t',e,hc⟩:=h
 exact⟨b,t',e,blk_away hc (by simp) ha hg⟩
def Ds.At (w:World):Ds→Value→Prop
 | .f g,v=>v= .func (.func g) #[] #[]
 | .c g d,v=>∃p u,v= .func (.func g) #[] #[p]∧Bx w p u∧d.At w u
 | .i g u,v=>∃p,v= .func (.func g) #[] #[p]∧Bx w p u
 | .j g u u',v=>∃p p',v= .func (.func g) #[] #[p,p']∧Bx w p u∧Bx w p' u'
 | .n g M E,v=>∃b,v= .func (.func g) #[] #[.pointer (some ⟨b,0,none⟩)]∧World.dec w b M E
theorem Ds.At.below {w W:World} (hb:Below w.heap.size w W):∀ {d:Ds} {v:Value},d.At w v→d.At W v
 | .f _,_,h=>h
 | .c _ _,_,⟨p,u,e,h,h'⟩=>⟨p,u,e,h.below hb,Ds.At.below hb h'⟩
 | .i _ _,_,⟨p,e,h⟩=>⟨p,e,h.below hb⟩
 | .j _ _ _,_,⟨p,p',e,h,h'⟩=>⟨p,p',e,h.below hb,h'.below hb⟩
 | .n _ _ _,_,⟨b,e,h⟩=>⟨b,e,h.below hb h.lt⟩
theorem Ds.At.grown {w W:World} {g:Nat} (ha:Away w g) (hg:w.grownBy W (some g)):∀ {d:Ds} {v:Value},d.At w v→d.At W v
 | .f _,_,h=>h
 | .c _ _,_,⟨p,u,e,h,h'⟩=>⟨p,u,e,h.grown ha hg,Ds.At.grown ha hg h'⟩
 | .i _ _,_,⟨p,e,h⟩=>⟨p,e,h.grown ha hg⟩
 | .j _ _ _,_,⟨p,p',e,h,h'⟩=>⟨p,p',e,h.grown ha hg,h'.grown ha hg⟩
 | .n _ _ _,_,⟨b,e,h⟩=>⟨b,e,blk_away h (by simp) ha hg⟩
theorem Ds.At.form {w:World}:∀ {d:Ds} {v:Value},d.At w v→∃g ps,v= .func (.func g) #[] ps
 | .f _,_,h=>⟨_,_,h⟩
 | .c _ _,_,⟨_,_,e,_⟩=>⟨_,_,e⟩
 | .i _ _,_,⟨_,e,_⟩=>⟨_,_,e⟩
 | .j _ _ _,_,⟨_,_,e,_⟩=>⟨_,_,e⟩
 | .n _ _ _,_,⟨_,e,_⟩=>⟨_,_,e⟩
/-- A function, or nil. -/
def DsO (w:World):Option Ds→Value→Prop
 |none,v=>v= .nilFunc
 |some d,v=>d.At w v
theorem DsO.below {w W:World} (hb:Below w.heap.size w W):∀ {d:Option Ds} {v:Value},DsO w d v→DsO W d v
 |none,_,h=>h
 |some _,_,h=>Ds.At.below hb h
theorem DsO.grown {w W:World} {g:Nat} (ha:Away w g) (hg:w.grownBy W (some g)):∀ {d:Option Ds} {v:Value},DsO w d v→DsO W d v
 |none,_,h=>h
 |some _,_,h=>Ds.At.grown ha hg h
/-- How many values it takes; its letters; what it does by letters, or with all. -/
structure Ent where
 least:Int
 most:Int
 how:List UInt8:= []
 one:Option Ds:=none
 all:Option Ds:=none
abbrev bS (l:List UInt8):ByteArray:=mk l
def Ent.At (w:World) (e:Ent) (v:Value):Prop:=∃a b,v= .agg #[.int .i64 e.least,.int .i64 e.most,.string (bS e.how),a,b]∧DsO w e.one a∧DsO w e.all b
theorem Ent.At.below {w W:World} {e:Ent} {v:Value} (h:e.At w v) (hb:Below w.heap.size w W):e.At W v:=by
 obtain⟨a,b,hv,h1,h2⟩:=h
 exact⟨a,b,hv,h1.below hb,h2.below hb⟩
theorem Ent.At.grown {w W:World} {e:Ent} {v:Value} {g:Nat} (h:e.At w v) (ha:Away w g) (hg:w.grownBy W (some g)):e.At W v:=by
 obtain⟨a,b,hv,h1,h2⟩:=h
 exact⟨a,b,hv,h1.grown ha hg,h2.grown ha hg⟩
/-- What a key has. -/
def look :List (List UInt8×Ent)→List UInt8→Option Ent
 | [],_=>none
 |(k,e) :: T,x=>if k=x then some e else look T x
theorem look_app (S T:List (List UInt8×Ent)) (x:List UInt8):look (S++T) x=(look S x).or (look T x):=by
 induction S with
 |nil=>rfl
 |cons p S ih=>
  obtain⟨k,e⟩:=p
  rw[List.cons_append,look,look]
  split
  ·rfl
  ·exact ih
/-- An element reads as itself. -/
def RV :Value→Option (DataW Value×List MemPlace):=fun v=>some (.held v,[])
/-- D is the table t, in w. -/
def Tells1 (w:World) (D:DataW Value) (t:List UInt8→Option Ent):Prop:=
 ∀x,match t x with
  |some e=>∃v,(∀z,D.atKey (.string x) z= .held v)∧e.At w v
  |none=>∀z,D.atKey (.string x) z=z
def Tb (w:World) (b n:Nat) (t:List UInt8→Option Ent):Prop:=∃D,w.ownsMap Tryz.prog 9 RV b n D∧Tells1 w D t
theorem Tells1.below {w W:World} {D:DataW Value} {t:List UInt8→Option Ent} (h:Tells1 w D t) (hb:Below w.heap.size w W):Tells1 W D t:=by
 intro x
 have:=h x
 split at this
 ·rename_i e he
  obtain⟨v,h1,h2⟩:=this
  exact⟨v,h1,h2.below hb⟩
 ·exact this
theorem Tb.lt {w:World} {b n:Nat} {t:List UInt8→Option Ent} (h:Tb w b n t):b<w.heap.size:=h.choose_spec.1.lt
theorem owns_same {w W:World} {b n:Nat} {D:DataW Value} (h:w.ownsMap Tryz.prog 9 RV b n D) (e:W.heap[b]? =w.heap[b]?):W.ownsMap Tryz.prog 9 RV b n D:=by
 obtain⟨es,clock,hb,r⟩:=h
 exact⟨es,clock,e.trans hb,r⟩
theorem Tb.below {w W:World} {b n:Nat} {t:List UInt8→Option Ent} (h:Tb w b n t) (hb:Below w.heap.size w W):Tb W b n t:=by
 have hl:=h.lt
 obtain⟨D,h1,h2⟩:=h
 exact⟨D,owns_same h1 (hb.block b hl),h2.below hb⟩
theorem Tb.mono {w:World} {b n m:Nat} {t:List UInt8→Option Ent} (h:Tb w b n t) (hm:n≤m):Tb w b m t:=by
 obtain⟨D,h1,h2⟩:=h
 exact⟨D,h1.mono hm,h2⟩
theorem keyed9 :Keyed Tryz.prog 9:=string_keyed Tryz.underlying9
theorem key9 (l:List UInt8) (h:l.length≤100):keyOf Tryz.prog 9 (.string (mk l))=some (.string l):=
 Go.WideMaps.keyOf_string_mk Tryz.underlying9 (s:=mk l) (by show l.length≤_;unfold maxLen;omega)
theorem tb_new (w:World):Tb (w.alloc (.map #[] 0)) w.heap.size 0 (look []):=⟨.map [],World.ownsMap_made _ _ _ _,fun _ _=>rfl⟩
theorem owns_away {w:World} {b n:Nat} {D:DataW Value} (h:w.ownsMap Tryz.prog 9 RV b n D):Away w b:=by
 obtain⟨es,clock,hb,_⟩:=h
 intro cs t _ e
 rw[hb]at e
 cases e
def put (k:List UInt8) (e:Ent) (t:List UInt8→Option Ent):List UInt8→Option Ent:=fun x=>if k=x then some e else t x
theorem Tells1.grown {w W:World} {D:DataW Value} {t:List UInt8→Option Ent} {g:Nat} (h:Tells1 w D t) (ha:Away w g) (hg:w.grownBy W (some g)):Tells1 W D t:=by
 intro x
 have:=h x
 split at this
 ·rename_i e he
  obtain⟨v,h1,h2⟩:=this
  exact⟨v,h1,h2.grown ha hg⟩
 ·exact this
theorem Tells1.put {w:World} {D:DataW Value} {t:List UInt8→Option Ent} {k:List UInt8} {e:Ent} {v:Value} (h:Tells1 w D t) (hD:IsMap D) (he:e.At w v):Tells1 w (D.put (.string k) (.held v)) (put k e t):=by
 intro x
 unfold Go.Proofs.YtmhfioimgllgeaaGreatDoor.put
 by_cases hx:k=x
 ·subst hx
  rw[if_pos rfl]
  exact⟨v,fun z=>atKey_put_same hD (k:= .string k) trivial _ _,he⟩
 ·rw[if_neg hx]
  have:=h x
  have hne:Lit.string x≠ .string k:=by intro e;injection e with e;exact hx e.symm
  split at this
  ·rename_i e' he'
   obtain⟨v',h1,h2⟩:=this
   exact⟨v',fun z=>by rw[atKey_put_other hne];exact h1 z,h2⟩
  ·intro z;rw[atKey_put_other hne];exact this z
theorem Tb.insert {w:World} {b n:Nat} {t:List UInt8→Option Ent} {k:List UInt8} {e:Ent} {v:Value} (h:Tb w b n t) (hn:n<maxLen) (hk:k.length≤100) (he:e.At w v):
 ∃w',(Instr.mapUpdate 74 (.map (some b)) (.string (mk k)) v).run Tryz.prog w= .ok () w'∧Tb w' b (n+1) (put k e t)∧w.grownBy w' (some b):=by
 obtain⟨D,h1,h2⟩:=h
 obtain⟨w',hrun,h3,hg⟩:=h1.update keyed9 Tryz.underlying74 hn (key9 k hk) (d:= .held v) (ps:= []) rfl
 exact⟨w',hrun,⟨_,h3,(h2.put h1.isMap he).grown (owns_away h1) hg⟩,hg⟩
end Go.Proofs.YtmhfioimgllgeaaGreatDoor
