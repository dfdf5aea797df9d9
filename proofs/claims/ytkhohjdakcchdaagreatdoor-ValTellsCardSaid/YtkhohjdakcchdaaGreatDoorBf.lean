/- Merged: Vl, Vm, Mk. -/
import Derived.Test.YtkhohjdakcchdaaGreatDoorBa
import Derived.Test.YtkhohjdakcchdaaGreatDoorCmp
import Derived.Test.YtkhohjdakcchdaaGreatDoorBd
import Derived.Test.YtkhohjdakcchdaaGreatDoorRead
import Derived.Lib.Join
import Derived.Laws.AppendOwn
import Derived.Deep.RegionHeld3
import Derived.Lib.Hide
namespace Go.Proofs.YtkhohjdakcchdaaGreatDoor
open Go
/-- A value. (A code's block is nil, or has the one instruction that lays nothing.) -/
structure Vl where
 k:Int:=0
 m:Int:=0
 e:Int:=0
 s:ByteArray:=⟨#[]⟩
 b:Bool:=false
 err:Int:=0
 rows:Int:=0
 cols:Int:=0
 l:List Vl:= []
 fn:Int:=0
 bl:List Bool:= []
 ps:List ByteArray:= []
def numV (p:Int×Int):Vl:= {k:=1,m:=p.1,e:=p.2}
def txtV (s:ByteArray):Vl:= {k:=2,s:=s}
def trV (b:Bool):Vl:= {k:=3,b:=b}
def errV (n:Int):Vl:= {k:=4,err:=n}
def arrV (r c:Int) (l:List Vl):Vl:= {k:=5,rows:=r,cols:=c,l:=l}
/-- All fields are zero, but for the kind and those of one kind. -/
def bareV (x:Vl) (k:Int):Bool:=
 (k==1||(x.m==0&&x.e==0))&&(k==2||k==6||x.s.size==0)&&(k==3|| !x.b)&&(k==4||x.err==0)&&
 (k==5||(x.rows==0&&x.cols==0))&&(k==5||k==6||x.l.isEmpty)&&(k==6||(x.fn==0&&x.bl.isEmpty&&x.ps.isEmpty))
def txtOk (s:ByteArray):Bool:=decide (s.size≤200)&&isTextL s.data.toList
def plainV (x:Vl):Bool:=
 bareV x x.k&&(x.k==0||(x.k==1&&rightB x.m x.e)||(x.k==2&&txtOk x.s)||x.k==3||(x.k==4&&(decide (1≤x.err)&&decide (x.err≤9))))
def dimsB (x:Vl):Bool:=decide (1≤x.rows∧1≤x.cols∧x.rows≤400∧x.cols≤400∧x.rows*x.cols≤400∧(x.l.length:Int)=x.rows*x.cols)
def codeB (x:Vl):Bool:=decide (1≤x.bl.length∧x.bl.length≤20∧x.ps.length=x.bl.length∧0≤x.fn∧x.fn<(x.bl.length:Int)∧x.l.length≤40)
/-- P3.1, to a depth. -/
def rightV :Nat→Vl→Bool
 |0,_=>false
 |n+1,x=>if x.k=5 then dimsB x&&(bareV x 5&&x.l.all plainV)else if x.k=6 then codeB x&&(bareV x 6&&x.l.all (rightV n))else plainV x
def lowC (c:UInt8):UInt8:=if 65≤c.toNat∧c.toNat≤90 then c+32 else c
def lowL (l:List UInt8):List UInt8:=l.map lowC
def ordI (x y:Int):Int:=if x<y then -1 else if y<x then 1 else 0
def truI (b:Bool):Int:=if b then 1 else 0
/-- P3.2, of two that are no arrays. -/
def oneV (x y:Vl):Int:=
 if x.k≠y.k then ordI x.k y.k else if x.k=1 then cmpD x.m x.e y.m y.e else if x.k=2 then Lib.compareBytes (lowL x.s.data.toList) (lowL y.s.data.toList)
 else if x.k=3 then ordI (truI x.b) (truI y.b)else if x.k=4 then ordI x.err y.err else 0
def oneL :List Vl→List Vl→Int
 | [],[]=>0
 | [],_ :: _=> -1
 |_ :: _,[]=>1
 |x :: l,y :: r=>if oneV x y=0 then oneL l r else oneV x y
def cmpV (n:Nat) (x y:Vl):Int:=
 if rightV n x=true∧rightV n y=true then(if x.k=5∧y.k=5 then(if x.rows≠y.rows then ordI x.rows y.rows else if x.cols≠y.cols then ordI x.cols y.cols else oneL x.l y.l)else oneV x y)else 0
def trueL :List UInt8:= [116,114,117,101]
def falseL :List UInt8:= [102,97,108,115,101]
/-- The truth that a text is. -/
def truthL (l:List UInt8):Option Bool:=if lowL l=trueL then some true else if lowL l=falseL then some false else none
def mk (l:List UInt8):ByteArray:=⟨l.toArray⟩
def TRUEL :List UInt8:= [84,82,85,69]
def FALSEL :List UInt8:= [70,65,76,83,69]
def numT (x:Vl):Vl:=
 if x.k=0 then numV (0,0)else if x.k=2 then(if(readD x.s.data.toList).2=0 then numV (readD x.s.data.toList).1 else errV 3)else if x.k=3 then numV (truI x.b,0)else x
def txtT (x:Vl):Vl:=
 if x.k=0 then txtV (mk [])else if x.k=1 then txtV (mk (textD x.m x.e).1)else if x.k=3 then txtV (mk (if x.b then TRUEL else FALSEL))else x
def truT (x:Vl):Vl:=
 if x.k=0 then trV false else if x.k=1 then trV (x.m != 0)else if x.k=2 then(match truthL x.s.data.toList with|some b=>trV b|none=>errV 3)else x
def eachV (n:Nat) (f:Vl→Vl) (x:Vl):Vl:=if rightV n x=true∧x.k≠6 then(if x.k=5 then arrV x.rows x.cols (x.l.map f)else f x)else errV 3
def errL :Nat→List UInt8
 |1=> [35,78,85,76,76,33]
 |2=> [35,68,73,86,47,48,33]
 |3=> [35,86,65,76,85,69,33]
 |4=> [35,82,69,70,33]
 |5=> [35,78,65,77,69,63]
 |6=> [35,78,85,77,33]
 |7=> [35,78,47,65]
 |8=> [35,83,80,73,76,76,33]
 |_=> [35,67,73,82,67,33]
def errF (l:List UInt8):Option Nat:= [1,2,3,4,5,6,7,8,9].find? fun i=>lowL (errL i)==lowL l
/-- P3.4. -/
def readV (l:List UInt8):Vl×Int:=
 if l= []then({},0)else if l.head? =some 61 then({},30)else if(readD l).2=0 then(numV (readD l).1,0)else
 match truthL l with
 |some b=>(trV b,0)
 |none=>match errF l with
  |some i=>(errV i,0)
  |none=>if txtOk (mk (Lib.trimPrefix l [39]))=true then(txtV (mk (Lib.trimPrefix l [39])),0)else({},30)
/-- P3.5, of a plain one that is no text. -/
def writL (x:Vl):List UInt8:=if x.k=1 then(textD x.m x.e).1 else if x.k=3 then(if x.b then TRUEL else FALSEL)else if x.k=4 then errL x.err.toNat else []
def quotL (l:List UInt8):List UInt8:=34 :: (l.flatMap (fun c=>if c=34 then [34,34]else [c])++ [34])
def cellL (x:Vl):List UInt8:=if x.k=2 then quotL x.s.data.toList else writL x
def rowsF :Nat→Nat→List Vl→List (List UInt8)
 |0,_,_=> []
 |n+1,c,l=>if l= []then []else Lib.join ((l.take c).map cellL) [44] :: rowsF n c (l.drop c)
def arrL (x:Vl):List UInt8:=123 :: (Lib.join (rowsF x.l.length x.cols.toNat x.l) [59]++ [125])
def LAMBDA :List UInt8:= [76,65,77,66,68,65]
def textV (n:Nat) (x:Vl):List UInt8×Int:=
 if rightV n x=true then(if x.k=6 then LAMBDA else if x.k=2 then
  (if(readV x.s.data.toList).2=0∧(readV x.s.data.toList).1.k=2∧(readV x.s.data.toList).1.s=x.s then x.s.data.toList else 39 :: x.s.data.toList)
  else if x.k=5 then arrL x else writL x,0)else([],30)
def getV (n:Nat) (x:Vl) (r c:Int):Vl:=
 if rightV n x=true then(if r<0∨c<0 then errV 7 else if x.k=5 then
  (if x.rows≤(if x.rows=1 then 0 else r)∨x.cols≤(if x.cols=1 then 0 else c)then errV 7 else x.l.getD ((if x.rows=1 then 0 else r)*x.cols+(if x.cols=1 then 0 else c)).toNat {})else x)else errV 3
end Go.Proofs.YtkhohjdakcchdaaGreatDoor
namespace Go.Proofs.YtkhohjdakcchdaaGreatDoor
open Go Go.RowKit
/-- The cells of a value: L its elements, Bs and Ps its code. -/
def vcs (x:Vl) (L Bs Ps:Value):Array Value:=
 #[.int .i64 x.k,.int .i64 x.m,.int .i64 x.e,.string x.s,.bool x.b,.int .i64 x.err,.int .i64 x.rows,.int .i64 x.cols,L,.int .i64 x.fn,Bs,Ps]
abbrev nilS :Value:= .slice none 0 0
def i64R (n:Int):Prop:= -9223372036854775808≤n∧n≤9223372036854775807
structure VOk (x:Vl):Prop where
 k:i64R x.k
 m:i64R x.m
 e:i64R x.e
 s:x.s.size≤1000
 err:i64R x.err
 rows:i64R x.rows
 cols:i64R x.cols
 fn:i64R x.fn
/-- A slice of values below B, each as R says. -/
def VsAt (R:Vl→Value→Prop) (w:World) (B:Nat) (L:Value) (l:List Vl):Prop:=
 ∃p c,L= .slice p l.length c∧l.length≤c∧c≤maxLen∧l.length≤1000∧(l= []→L=nilS)∧
  ∀i y,l[i]? =some y→∃g off cs,p=some ⟨g,off,none⟩∧g<B∧cs.size=12∧R y (.agg cs)∧∀j u,cs[j]? =some u→w.cell? ⟨g,off+i*12+j,none⟩=some u
/-- A slice of texts below B. -/
def PsAt (w:World) (B:Nat) (P:Value) (l:List ByteArray):Prop:=
 ∃p c,P= .slice p l.length c∧l.length≤c∧c≤maxLen∧l.length≤100∧∀i s,l[i]? =some s→s.size≤1000∧∃g off,p=some ⟨g,off,none⟩∧g<B∧w.cell? ⟨g,off+i,none⟩=some (.string s)
/-- The cells of the one instruction: it lays nothing (7). -/
def insC :Array Value:=
 #[.int .i64 7,.int .i64 0,.int .i64 0,.string ⟨#[]⟩,.int .i64 0,.int .i64 0,.string ⟨#[]⟩,.int .i64 0,.int .i64 0,.bool false,.bool false,.bool false,.string ⟨#[]⟩,.int .i64 0,.int .i64 0,.bool false,.bool false,.bool false]
/-- A block: nil, or the one instruction. -/
def InAt (w:World) (B:Nat) (b:Bool) (v:Value):Prop:=
 if b=true then ∃g off c,v= .slice (some ⟨g,off,none⟩) 1 c∧1≤c∧c≤maxLen∧g<B∧∀j u,insC[j]? =some u→w.cell? ⟨g,off+j,none⟩=some u else v=nilS
/-- A slice of blocks below B. -/
def BsAt (w:World) (B:Nat) (P:Value) (l:List Bool):Prop:=
 ∃p c,P= .slice p l.length c∧l.length≤c∧c≤maxLen∧l.length≤100∧∀i b,l[i]? =some b→∃g off u,p=some ⟨g,off,none⟩∧g<B∧InAt w B b u∧w.cell? ⟨g,off+i,none⟩=some u
/-- v is the value x, its memory below B; n bounds its depth. -/
def Rp (w:World) (B:Nat):Nat→Vl→Value→Prop
 |0,_,_=>False
 |n+1,x,v=>∃L Bs Ps,v= .agg (vcs x L Bs Ps)∧VOk x∧VsAt (Rp w B n) w B L x.l∧BsAt w B Bs x.bl∧PsAt w B Ps x.ps∧(x.k≠6→(x.bl= []→Bs=nilS)∧(x.ps= []→Ps=nilS))
section
variable {w w' : World} {B B' : Nat}
theorem VsAt.imp {R R':Vl→Value→Prop} {L:Value} {l:List Vl} (h:VsAt R w B L l) (hk:∀p:Addr,p.block<B→w'.cell? p=w.cell? p) (hB:B≤B') (hR:∀y v,R y v→R' y v):VsAt R' w' B' L l:=by
 obtain⟨p,c,h1,h2,h3,h4,h5,h⟩:=h
 refine⟨p,c,h1,h2,h3,h4,h5,fun i y hi=> ?_⟩
 obtain⟨g,off,cs,e,hg,hs,hr,hc⟩:=h i y hi
 exact⟨g,off,cs,e,Nat.lt_of_lt_of_le hg hB,hs,hR _ _ hr,fun j u hj=>(hk ⟨g,_,none⟩ hg).trans (hc j u hj)⟩
theorem PsAt.keep {P:Value} {l:List ByteArray} (h:PsAt w B P l) (hk:∀p:Addr,p.block<B→w'.cell? p=w.cell? p) (hB:B≤B'):PsAt w' B' P l:=by
 obtain⟨p,c,h1,h2,h3,h4,h⟩:=h
 refine⟨p,c,h1,h2,h3,h4,fun i y hi=> ?_⟩
 obtain⟨hs,g,off,e,hg,hc⟩:=h i y hi
 exact⟨hs,g,off,e,Nat.lt_of_lt_of_le hg hB,(hk ⟨g,_,none⟩ hg).trans hc⟩
theorem InAt.keep {b:Bool} {v:Value} (h:InAt w B b v) (hk:∀p:Addr,p.block<B→w'.cell? p=w.cell? p) (hB:B≤B'):InAt w' B' b v:=by
 unfold InAt at*
 split at h
 ·rename_i hb
  rw[if_pos hb]
  obtain⟨g,off,c,e,h1,h2,hg,hc⟩:=h
  exact⟨g,off,c,e,h1,h2,Nat.lt_of_lt_of_le hg hB,fun j u hj=>(hk ⟨g,_,none⟩ hg).trans (hc j u hj)⟩
 ·rename_i hb
  rw[if_neg hb];exact h
theorem BsAt.keep {P:Value} {l:List Bool} (h:BsAt w B P l) (hk:∀p:Addr,p.block<B→w'.cell? p=w.cell? p) (hB:B≤B'):BsAt w' B' P l:=by
 obtain⟨p,c,h1,h2,h3,h4,h⟩:=h
 refine⟨p,c,h1,h2,h3,h4,fun i y hi=> ?_⟩
 obtain⟨g,off,u,e,hg,hu,hc⟩:=h i y hi
 exact⟨g,off,u,e,Nat.lt_of_lt_of_le hg hB,hu.keep hk hB,(hk ⟨g,_,none⟩ hg).trans hc⟩
theorem Rp.keep :∀ {n:Nat} {x:Vl} {v:Value},Rp w B n x v→(∀p:Addr,p.block<B→w'.cell? p=w.cell? p)→B≤B'→Rp w' B' n x v
 |0,_,_,h,_,_=>h
 |n+1,_,_,h,hk,hB=>by
  obtain⟨L,Bs,Ps,h1,h2,h3,h4,h5,h6⟩:=h
  exact⟨L,Bs,Ps,h1,h2,h3.imp hk hB (fun y v h=>Rp.keep h hk hB),h4.keep hk hB,h5.keep hk hB,h6⟩
theorem Rp.below {n:Nat} {x:Vl} {v:Value} (h:Rp w B n x v) (hb:Below B w w') (hB:B≤B'):Rp w' B' n x v:=h.keep (fun _ hp=>hb.cell hp) hB
theorem Rp.ok {n:Nat} {x:Vl} {v:Value} (h:Rp w B n x v):VOk x:=by
 cases n with
 |zero=>exact h.elim
 |succ n=>exact h.choose_spec.choose_spec.choose_spec.2.1
end
/-- Block g holds a value's cells. -/
def World.vb (w:World) (g:Nat) (cs:Array Value):Prop:=w.heap[g]? =some (.cells cs 34 (0,0))
section
variable {w w' : World} {g : Nat} {cs cs' : Array Value}
theorem World.vb.cell (h:World.vb w g cs) {j:Nat} {u:Value} (hj:cs[j]? =some u):w.cell? ⟨g,j,none⟩=some u:=by rw[cell_of_row w g j _ _ _ h,hj]
theorem World.vb.frozen (h:World.vb w g cs) (o:Nat):w.frozen? ⟨g,o,none⟩=false:=frozen_of_row w g o _ _ h
theorem World.vb.lt (h:World.vb w g cs):g<w.heap.size:=(Array.getElem?_eq_some_iff.1 h).1
theorem World.vb.alloc (h:World.vb w g cs) (o:Obj):World.vb (w.alloc o) g cs:=by unfold World.vb;rw[heap_alloc_old w o h.lt];exact h
theorem World.vb.drew (h:World.vb w g cs):World.vb w.drew g cs:=h
theorem World.vb.drewN (h:World.vb w g cs) (n:Nat):World.vb (w.drewN n) g cs:=h
theorem World.vb.other (h:World.vb w g cs) {a:Addr} (hne:g≠a.block) (v:Value):World.vb (w.setCell a v) g cs:=by unfold World.vb;rw[heap_setCell_other w a g v hne];exact h
theorem World.vb.below {B:Nat} (h:World.vb w g cs) (hb:Below B w w') (hlt:g<B):World.vb w' g cs:=by unfold World.vb;rw[hb.block g hlt];exact h
theorem World.vb.grown {row:Option Nat} (h:World.vb w g cs) (hg:w.grownBy w' row) (hne:some g≠row):World.vb w' g cs:=by unfold World.vb;rw[hg.block g h.lt hne];exact h
theorem World.vb_new (w:World) (cs:Array Value):World.vb (w.alloc (.cells cs 34)) w.heap.size cs:=heap_alloc_new w _
theorem World.vb_new' (w:World) (cs:Array Value) (n:Nat) (hn:n=w.heap.size):World.vb (w.alloc (.cells cs 34)) n cs:=by subst hn;exact heap_alloc_new w _
theorem World.vb.setRow (h:World.vb w g cs):World.vb (w.setRow g cs') g cs':=by unfold World.vb;exact setRow_heap w g _ _ 34 _ h
theorem World.vb.set (h:World.vb w g cs) (k:Nat) (v:Value):World.vb (w.setCell ⟨g,k,none⟩ v) g (cs.setIfInBounds k v):=by
 unfold World.vb;rw[heap_setCell_same w g k _ 34 _ h]
end
theorem info34 :(Tryz.prog.info? 34).map (·.size)=some 12:=by kernel_rfl
def vz :Array Value:=vcs {} nilS nilS nilS
theorem zero34 (w:World):(zeroValue 34).run Tryz.prog w= .ok (.agg vz) w:=by kernel_rfl
/-- Every cell of a value is one cell. -/
def OneC (cs:Array Value):Prop:=cs.size=12∧cs.all (·.oneCell')=true
theorem vcs_one (x:Vl) (p q r:Option Addr) (a b c d e f:Nat):OneC (vcs x (.slice p a b) (.slice q c d) (.slice r e f)):=⟨rfl,by simp[vcs,Value.oneCell']⟩
section
variable {ops : Array Oper} {rest : List Oper} {o : Oper} {a : Act} {w : World} {K : Act → World → Prop} {Q : Exit → Act → World → Prop}
theorem wpList_alloc34 (hgd:o.guard=none) (ho:o.op= .alloc 34)
 (h:wpList Tryz.prog ops Q rest (a.put o.dst (.pointer (some ⟨w.heap.size,0,none⟩))) (w.alloc (.cells vz 34))):wpList Tryz.prog ops Q (o :: rest) a w:=
 wpList_plain hgd fun K hK=>by
  have hz:=zero34 w
  unfold Oper.wp execOp
  simp[ho,Instr.alloc,Sem.run_bind,hz,newVar,newRow,newObj,Value.cells]
  exact hK _ _ h
theorem wpList_load34 {x:Operand} {g:Nat} {cs:Array Value} (hgd:o.guard=none) (ho:o.op= .load 34 x) (hx:a.eval x= .pointer (some ⟨g,0,none⟩)) (hn:World.vb w g cs) (hs:cs.size=12)
 (h:wpList Tryz.prog ops Q rest (a.put o.dst (.agg cs)) w):wpList Tryz.prog ops Q (o :: rest) a w:=
 wpList_load_row hgd 34 x ho g hx 34 _ (0,0) _ hn Tryz.underlying34 rfl (by rw[hs];exact info34) h
theorem wpList_store34 {x y:Operand} {g:Nat} {cs cs':Array Value} (hgd:o.guard=none) (ho:o.op= .store 34 x y) (hx:a.eval x= .pointer (some ⟨g,0,none⟩)) (hy:a.eval y= .agg cs')
 (hn:World.vb w g cs) (hs:cs.size=12) (h1:OneC cs') (h:∀w1,World.vb w1 g cs'→w.grownBy w1 (some g)→w1.heap.size=w.heap.size→wpList Tryz.prog ops Q rest (a.put o.dst undef) w1):wpList Tryz.prog ops Q (o :: rest) a w:=
 wpList_store_row hgd 34 x y ho g _ hx hy 34 _ hn (by rw[h1.1];exact info34) (by rw[hs,h1.1]) h1.2 (h _ hn.setRow (setRow_grownBy _ _ _) (by simp))
theorem op_store34 {x y:Operand} {g:Nat} {cs cs':Array Value} (ho:o.op= .store 34 x y) (hx:a.eval x= .pointer (some ⟨g,0,none⟩)) (hy:a.eval y= .agg cs')
 (hn:World.vb w g cs) (hs:cs.size=12) (h1:OneC cs') (h:∀w1,World.vb w1 g cs'→w.grownBy w1 (some g)→w1.heap.size=w.heap.size→K (a.put o.dst undef) w1):o.wp Tryz.prog a w K Q:=
 wp_store_row 34 x y ho g _ hx hy 34 _ hn (by rw[h1.1];exact info34) (by rw[hs,h1.1]) h1.2 (h _ hn.setRow (setRow_grownBy _ _ _) (by simp))
theorem op_alloc34 (ho:o.op= .alloc 34) (h:K (a.put o.dst (.pointer (some ⟨w.heap.size,0,none⟩))) (w.alloc (.cells vz 34))):o.wp Tryz.prog a w K Q:=by
 have hz:=zero34 w
 unfold Oper.wp execOp
 simp[ho,Instr.alloc,Sem.run_bind,hz,newVar,newRow,newObj,Value.cells]
 exact h
end
end Go.Proofs.YtkhohjdakcchdaaGreatDoor
namespace Go.Proofs.YtkhohjdakcchdaaGreatDoor
open Go Go.RowKit
/-- A plain value's cells. -/
abbrev pcs (x:Vl):Array Value:=vcs x nilS nilS nilS
theorem pcs_one (x:Vl):OneC (pcs x):=vcs_one x none none none 0 0 0 0 0 0
theorem build_num (M E:Int) (w:World):(Instr.build 34 #[(0,.int .i64 1),(1,.agg #[.int .i64 M,.int .i64 E])]).run Tryz.prog w= .ok (.agg (pcs (numV (M,E)))) w:=by kernel_rfl
theorem build_txt (s:ByteArray) (w:World):(Instr.build 34 #[(0,.int .i64 2),(2,.string s)]).run Tryz.prog w= .ok (.agg (pcs (txtV s))) w:=by kernel_rfl
theorem build_tr (b:Bool) (w:World):(Instr.build 34 #[(0,.int .i64 3),(3,.bool b)]).run Tryz.prog w= .ok (.agg (pcs (trV b))) w:=by kernel_rfl
theorem build_err (n:Int) (w:World):(Instr.build 34 #[(0,.int .i64 4),(4,.int .i64 n)]).run Tryz.prog w= .ok (.agg (pcs (errV n))) w:=by kernel_rfl
theorem build_zero (w:World):(Instr.build 34 #[]).run Tryz.prog w= .ok (.agg (pcs {})) w:=by kernel_rfl
section
variable {ops : Array Oper} {rest : List Oper} {o : Oper} {a : Act} {w : World} {Q : Exit → Act → World → Prop}
theorem wpList_build_num {x:Operand} {M E:Int} (hgd:o.guard=none) (ho:o.op= .build 34 #[(0,.const (.int .i64 1)),(1,x)]) (hx:a.eval x= .agg #[.int .i64 M,.int .i64 E])
 (h:wpList Tryz.prog ops Q rest (a.put o.dst (.agg (pcs (numV (M,E))))) w):wpList Tryz.prog ops Q (o :: rest) a w:=
 wpList_plain hgd fun K hK=>by
  have hz:=build_num M E w
  have he:a.eval (.const (.int .i64 1))= .int .i64 1:=rfl
  unfold Oper.wp execOp
  simp[ho,hx,he,hz]
  exact hK _ _ h
theorem wpList_build_txt {x:Operand} {s:ByteArray} (hgd:o.guard=none) (ho:o.op= .build 34 #[(0,.const (.int .i64 2)),(2,x)]) (hx:a.eval x= .string s)
 (h:wpList Tryz.prog ops Q rest (a.put o.dst (.agg (pcs (txtV s)))) w):wpList Tryz.prog ops Q (o :: rest) a w:=
 wpList_plain hgd fun K hK=>by
  have hz:=build_txt s w
  have he:a.eval (.const (.int .i64 2))= .int .i64 2:=rfl
  unfold Oper.wp execOp
  simp[ho,hx,he,hz]
  exact hK _ _ h
theorem wpList_build_tr {x:Operand} {b:Bool} (hgd:o.guard=none) (ho:o.op= .build 34 #[(0,.const (.int .i64 3)),(3,x)]) (hx:a.eval x= .bool b)
 (h:wpList Tryz.prog ops Q rest (a.put o.dst (.agg (pcs (trV b)))) w):wpList Tryz.prog ops Q (o :: rest) a w:=
 wpList_plain hgd fun K hK=>by
  have hz:=build_tr b w
  have he:a.eval (.const (.int .i64 3))= .int .i64 3:=rfl
  unfold Oper.wp execOp
  simp[ho,hx,he,hz]
  exact hK _ _ h
theorem wpList_build_err {x:Operand} {n:Int} (hgd:o.guard=none) (ho:o.op= .build 34 #[(0,.const (.int .i64 4)),(4,x)]) (hx:a.eval x= .int .i64 n)
 (h:wpList Tryz.prog ops Q rest (a.put o.dst (.agg (pcs (errV n)))) w):wpList Tryz.prog ops Q (o :: rest) a w:=
 wpList_plain hgd fun K hK=>by
  have hz:=build_err n w
  have he:a.eval (.const (.int .i64 4))= .int .i64 4:=rfl
  unfold Oper.wp execOp
  simp[ho,hx,he,hz]
  exact hK _ _ h
theorem wpList_build_zero (hgd:o.guard=none) (ho:o.op= .build 34 #[])
 (h:wpList Tryz.prog ops Q rest (a.put o.dst (.agg (pcs {}))) w):wpList Tryz.prog ops Q (o :: rest) a w:=
 wpList_plain hgd fun K hK=>by
  have hz:=build_zero w
  unfold Oper.wp execOp
  simp[ho,hz]
  exact hK _ _ h
end
/-- A value is handed back, and what lay there lies. -/
def Gives (v:Value) (w:World) (e:Ending) (w':World):Prop:=e= .returned v∧Below w.heap.size w w'
set_option maxHeartbeats 1000000 in
theorem number_any (M E:Int) (w:World):Calls Tryz.prog 44 #[.agg #[.int .i64 M,.int .i64 E]] w (Gives (.agg (pcs (numV (M,E)))) w):=by
 go_enter Tryz.func44,Tryz.ntmps44
 go_wp2_with (first|refine wpList_alloc34 rfl rfl ?_|refine wpList_build_num rfl rfl (by rfl) ?_|(refine wpList_store34 rfl rfl rfl rfl (World.vb_new' _ _ _ (by simp)) (by rfl) (pcs_one _) ?_;intro w1 hn1 hg1 hz1))
 refine bodyPost_ret (results_cell_row rfl _ _ _ 34 _ (0,0) _ rfl hn1 Tryz.underlying34 rfl info34) rfl ?_
 exact⟨rfl,(((Below.refl _ w).alloc (Nat.le_refl _) _).alloc (by simp) _).grown hg1 (by simp;omega) (fun k hk=>by cases hk;simp)⟩
set_option maxHeartbeats 1000000 in
theorem said_any (s:ByteArray) (w:World):Calls Tryz.prog 52 #[.string s] w (Gives (.agg (pcs (txtV s))) w):=by
 go_enter Tryz.func52,Tryz.ntmps52
 go_wp2_with (first|refine wpList_alloc34 rfl rfl ?_|refine wpList_build_txt rfl rfl (by rfl) ?_|(refine wpList_store34 rfl rfl rfl rfl (World.vb_new' _ _ _ (by simp)) (by rfl) (pcs_one _) ?_;intro w1 hn1 hg1 hz1))
 refine bodyPost_ret (results_cell_row rfl _ _ _ 34 _ (0,0) _ rfl hn1 Tryz.underlying34 rfl info34) rfl ?_
 exact⟨rfl,(((Below.refl _ w).alloc (Nat.le_refl _) _)).grown hg1 (by simp) (fun k hk=>by cases hk;simp)⟩
set_option maxHeartbeats 1000000 in
theorem truth_any (b:Bool) (w:World):Calls Tryz.prog 46 #[.bool b] w (Gives (.agg (pcs (trV b))) w):=by
 go_enter Tryz.func46,Tryz.ntmps46
 go_wp2_with (first|refine wpList_alloc34 rfl rfl ?_|refine wpList_build_tr rfl rfl (by rfl) ?_|(refine wpList_store34 rfl rfl rfl rfl (World.vb_new' _ _ _ (by simp)) (by rfl) (pcs_one _) ?_;intro w1 hn1 hg1 hz1))
 refine bodyPost_ret (results_cell_row rfl _ _ _ 34 _ (0,0) _ rfl hn1 Tryz.underlying34 rfl info34) rfl ?_
 exact⟨rfl,(((Below.refl _ w).alloc (Nat.le_refl _) _)).grown hg1 (by simp) (fun k hk=>by cases hk;simp)⟩
set_option maxHeartbeats 1000000 in
theorem err_any (n:Int) (w:World):Calls Tryz.prog 49 #[.int .i64 n] w (Gives (.agg (pcs (errV n))) w):=by
 go_enter Tryz.func49,Tryz.ntmps49
 go_wp2_with (first|refine wpList_alloc34 rfl rfl ?_|refine wpList_build_err rfl rfl (by rfl) ?_|(refine wpList_store34 rfl rfl rfl rfl (World.vb_new' _ _ _ (by simp)) (by rfl) (pcs_one _) ?_;intro w1 hn1 hg1 hz1))
 refine bodyPost_ret (results_cell_row rfl _ _ _ 34 _ (0,0) _ rfl hn1 Tryz.underlying34 rfl info34) rfl ?_
 exact⟨rfl,(((Below.refl _ w).alloc (Nat.le_refl _) _)).grown hg1 (by simp) (fun k hk=>by cases hk;simp)⟩
set_option maxHeartbeats 1000000 in
theorem rerr_any (n:Int) (w:World):Calls Tryz.prog 56 #[.int .i64 n] w (Gives (.agg (pcs (errV n))) w):=by
 go_enter Tryz.func56,Tryz.ntmps56
 go_wp2_with (first|refine wpList_alloc34 rfl rfl ?_|refine wpList_build_err rfl rfl (by rfl) ?_|(refine wpList_store34 rfl rfl rfl rfl (World.vb_new' _ _ _ (by simp)) (by rfl) (pcs_one _) ?_;intro w1 hn1 hg1 hz1))
 refine bodyPost_ret (results_cell_row rfl _ _ _ 34 _ (0,0) _ rfl hn1 Tryz.underlying34 rfl info34) rfl ?_
 exact⟨rfl,(((Below.refl _ w).alloc (Nat.le_refl _) _)).grown hg1 (by simp) (fun k hk=>by cases hk;simp)⟩
def pickI (c n:Int):Int:=if c<0 then(-(c+1))%n else c%n
theorem pickI_bd (c:Int) {n:Int} (h:0<n):0≤pickI c n∧pickI c n<n:=by
 unfold pickI;split
 ·exact⟨Int.emod_nonneg _ (by omega),Int.emod_lt_of_pos _ h⟩
 ·exact⟨Int.emod_nonneg _ (by omega),Int.emod_lt_of_pos _ h⟩
set_option maxHeartbeats 1000000 in
theorem pick_any (c n:Int) (w:World) (h0: -9223372036854775808≤c) (h1:c≤9223372036854775807) (n0:0<n) (n1:n≤9223372036854775807):
 Calls Tryz.prog 24 #[.int .i64 c,.int .i64 n] w fun e w'=>e= .returned (.int .i64 (pickI c n))∧w'=w:=by
 have hn:¬n=0:=by omega
 by_cases hc:c<0
 ·have htm:(-(c+1)).tmod n=(-(c+1))%n:=Int.tmod_eq_emod_of_nonneg (by omega)
  have hb0:0≤(-(c+1))%n:=Int.emod_nonneg _ hn
  have hb1:(-(c+1))%n<n:=Int.emod_lt_of_pos _ n0
  have hw:IntKind.i64.wrap ((-(c+1))%n)=(-(c+1))%n:=IntWalk.i64_in _ (by omega)
  have HP:Hid (pickI c n=(-(c+1))%n):=by show _=_;rw[pickI,if_pos hc]
  go_enter Tryz.func24,Tryz.ntmps24
  go_wp2
  go_ret
  exact⟨ret_int (by rw[HP.out]),rfl⟩
 ·have htm:c.tmod n=c%n:=Int.tmod_eq_emod_of_nonneg (by omega)
  have hb0:0≤c%n:=Int.emod_nonneg _ hn
  have hb1:c%n<n:=Int.emod_lt_of_pos _ n0
  have hw:IntKind.i64.wrap (c%n)=c%n:=IntWalk.i64_in _ (by omega)
  have HP:Hid (pickI c n=c%n):=by show _=_;rw[pickI,if_neg hc]
  go_enter Tryz.func24,Tryz.ntmps24
  go_wp2
  go_ret
  exact⟨ret_int (by rw[HP.out]),rfl⟩
end Go.Proofs.YtkhohjdakcchdaaGreatDoor
