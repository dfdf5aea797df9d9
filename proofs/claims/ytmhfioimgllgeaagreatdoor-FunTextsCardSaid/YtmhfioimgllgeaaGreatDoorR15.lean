/- Merged: Vl, Vm, Mk, Fld. -/
import Derived.Test.YtmhfioimgllgeaaGreatDoorR10
import Derived.Test.YtmhfioimgllgeaaGreatDoorR12
import Derived.Test.YtmhfioimgllgeaaGreatDoorR14
import Derived.Lib.Join
import Derived.Laws.AppendOwn
import Derived.Deep.RegionHeld3
import Derived.Lib.Hide
import Derived.Laws.IdiomStrings
namespace Go.Proofs.YtmhfioimgllgeaaGreatDoor
open Go
/-- A value. (A code's block is nil, or has the one instruction that lays nothing.) -/
structure Vl where
 k:Int:=0
 m:Int:=0
 e:Int:=0
 s:ByteArray:=⟨#[]⟩
 b:Bool:=false
 err:Int:=0
 rows:Int:=0
 cols:Int:=0
 l:List Vl:= []
 fn:Int:=0
 bl:List Bool:= []
 ps:List ByteArray:= []
def numV (p:Int×Int):Vl:= {k:=1,m:=p.1,e:=p.2}
def txtV (s:ByteArray):Vl:= {k:=2,s:=s}
def trV (b:Bool):Vl:= {k:=3,b:=b}
def errV (n:Int):Vl:= {k:=4,err:=n}
def arrV (r c:Int) (l:List Vl):Vl:= {k:=5,rows:=r,cols:=c,l:=l}
/-- All fields are zero, but for the kind and those of one kind. -/
def bareV (x:Vl) (k:Int):Bool:=
 (k==1||(x.m==0&&x.e==0))&&(k==2||k==6||x.s.size==0)&&(k==3|| !x.b)&&(k==4||x.err==0)&&
 (k==5||(x.rows==0&&x.cols==0))&&(k==5||k==6||x.l.isEmpty)&&(k==6||(x.fn==0&&x.bl.isEmpty&&x.ps.isEmpty))
def txtOk (s:ByteArray):Bool:=decide (s.size≤200)&&isTextL s.data.toList
def plainV (x:Vl):Bool:=
 bareV x x.k&&(x.k==0||(x.k==1&&rightB x.m x.e)||(x.k==2&&txtOk x.s)||x.k==3||(x.k==4&&(decide (1≤x.err)&&decide (x.err≤9))))
def dimsB (x:Vl):Bool:=decide (1≤x.rows∧1≤x.cols∧x.rows≤400∧x.cols≤400∧x.rows*x.cols≤400∧(x.l.length:Int)=x.rows*x.cols)
def codeB (x:Vl):Bool:=decide (1≤x.bl.length∧x.bl.length≤20∧x.ps.length=x.bl.length∧0≤x.fn∧x.fn<(x.bl.length:Int)∧x.l.length≤40)
/-- P3.1, to a depth. -/
def rightV :Nat→Vl→Bool
 |0,_=>false
 |n+1,x=>if x.k=5 then dimsB x&&(bareV x 5&&x.l.all plainV)else if x.k=6 then codeB x&&(bareV x 6&&x.l.all (rightV n))else plainV x
def lowC (c:UInt8):UInt8:=if 65≤c.toNat∧c.toNat≤90 then c+32 else c
def lowL (l:List UInt8):List UInt8:=l.map lowC
def ordI (x y:Int):Int:=if x<y then -1 else if y<x then 1 else 0
def truI (b:Bool):Int:=if b then 1 else 0
/-- P3.2, of two that are no arrays. -/
def oneV (x y:Vl):Int:=
 if x.k≠y.k then ordI x.k y.k else if x.k=1 then cmpD x.m x.e y.m y.e else if x.k=2 then Lib.compareBytes (lowL x.s.data.toList) (lowL y.s.data.toList)
 else if x.k=3 then ordI (truI x.b) (truI y.b)else if x.k=4 then ordI x.err y.err else 0
def oneL :List Vl→List Vl→Int
 | [],[]=>0
 | [],_ :: _=> -1
 |_ :: _,[]=>1
 |x :: l,y :: r=>if oneV x y=0 then oneL l r else oneV x y
def cmpV (n:Nat) (x y:Vl):Int:=
 if rightV n x=true∧rightV n y=true then(if x.k=5∧y.k=5 then(if x.rows≠y.rows then ordI x.rows y.rows else if x.cols≠y.cols then ordI x.cols y.cols else oneL x.l y.l)else oneV x y)else 0
def trueL :List UInt8:= [116,114,117,101]
def falseL :List UInt8:= [102,97,108,115,101]
/-- The truth that a text is. -/
def truthL (l:List UInt8):Option Bool:=if lowL l=trueL then some true else if lowL l=falseL then some false else none
def mk (l:List UInt8):ByteArray:=⟨l.toArray⟩
def TRUEL :List UInt8:= [84,82,85,69]
def FALSEL :List UInt8:= [70,65,76,83,69]
def numT (x:Vl):Vl:=
 if x.k=0 then numV (0,0)else if x.k=2 then(if(readD x.s.data.toList).2=0 then numV (readD x.s.data.toList).1 else errV 3)else if x.k=3 then numV (truI x.b,0)else x
def txtT (x:Vl):Vl:=
 if x.k=0 then txtV (mk [])else if x.k=1 then txtV (mk (textD x.m x.e).1)else if x.k=3 then txtV (mk (if x.b then TRUEL else FALSEL))else x
def truT (x:Vl):Vl:=
 if x.k=0 then trV false else if x.k=1 then trV (x.m != 0)else if x.k=2 then(match truthL x.s.data.toList with|some b=>trV b|none=>errV 3)else x
def getV (n:Nat) (x:Vl) (r c:Int):Vl:=
 if rightV n x=true then(if r<0∨c<0 then errV 7 else if x.k=5 then
  (if x.rows≤(if x.rows=1 then 0 else r)∨x.cols≤(if x.cols=1 then 0 else c)then errV 7 else x.l.getD ((if x.rows=1 then 0 else r)*x.cols+(if x.cols=1 then 0 else c)).toNat {})else x)else errV 3
end Go.Proofs.YtmhfioimgllgeaaGreatDoor
namespace Go.Proofs.YtmhfioimgllgeaaGreatDoor
open Go Go.RowKit
/-- The cells of a value: L its elements, Bs and Ps its code. -/
def vcs (x:Vl) (L Bs Ps:Value):Array Value:=
 #[.int .i64 x.k,.int .i64 x.m,.int .i64 x.e,.string x.s,.bool x.b,.int .i64 x.err,.int .i64 x.rows,.int .i64 x.cols,L,.int .i64 x.fn,Bs,Ps]
abbrev nilS :Value:= .slice none 0 0
def i64R (n:Int):Prop:= -9223372036854775808≤n∧n≤9223372036854775807
structure VOk (x:Vl):Prop where
 k:i64R x.k
 m:i64R x.m
 e:i64R x.e
 s:x.s.size≤1000
 err:i64R x.err
 rows:i64R x.rows
 cols:i64R x.cols
 fn:i64R x.fn
/-- A slice of values below B, each as R says. -/
def VsAt (R:Vl→Value→Prop) (w:World) (B:Nat) (L:Value) (l:List Vl):Prop:=
 ∃p c,L= .slice p l.length c∧l.length≤c∧c≤maxLen∧l.length≤1000∧(l= []→L=nilS)∧
  ∀i y,l[i]? =some y→∃g off cs,p=some ⟨g,off,none⟩∧g<B∧cs.size=12∧R y (.agg cs)∧∀j u,cs[j]? =some u→w.cell? ⟨g,off+i*12+j,none⟩=some u
/-- A slice of texts below B. -/
def PsAt (w:World) (B:Nat) (P:Value) (l:List ByteArray):Prop:=
 ∃p c,P= .slice p l.length c∧l.length≤c∧c≤maxLen∧l.length≤100∧∀i s,l[i]? =some s→s.size≤1000∧∃g off,p=some ⟨g,off,none⟩∧g<B∧w.cell? ⟨g,off+i,none⟩=some (.string s)
/-- The cells of the one instruction: it lays nothing (7). -/
def insC :Array Value:=
 #[.int .i64 7,.int .i64 0,.int .i64 0,.string ⟨#[]⟩,.int .i64 0,.int .i64 0,.string ⟨#[]⟩,.int .i64 0,.int .i64 0,.bool false,.bool false,.bool false,.string ⟨#[]⟩,.int .i64 0,.int .i64 0,.bool false,.bool false,.bool false]
/-- A block: nil, or the one instruction. -/
def InAt (w:World) (B:Nat) (b:Bool) (v:Value):Prop:=
 if b=true then ∃g off c,v= .slice (some ⟨g,off,none⟩) 1 c∧1≤c∧c≤maxLen∧g<B∧∀j u,insC[j]? =some u→w.cell? ⟨g,off+j,none⟩=some u else v=nilS
/-- A slice of blocks below B. -/
def BsAt (w:World) (B:Nat) (P:Value) (l:List Bool):Prop:=
 ∃p c,P= .slice p l.length c∧l.length≤c∧c≤maxLen∧l.length≤100∧∀i b,l[i]? =some b→∃g off u,p=some ⟨g,off,none⟩∧g<B∧InAt w B b u∧w.cell? ⟨g,off+i,none⟩=some u
/-- v is the value x, its memory below B; n bounds its depth. -/
def Rp (w:World) (B:Nat):Nat→Vl→Value→Prop
 |0,_,_=>False
 |n+1,x,v=>∃L Bs Ps,v= .agg (vcs x L Bs Ps)∧VOk x∧VsAt (Rp w B n) w B L x.l∧BsAt w B Bs x.bl∧PsAt w B Ps x.ps∧(x.k≠6→(x.bl= []→Bs=nilS)∧(x.ps= []→Ps=nilS))
section
variable {w w' : World} {B B' : Nat}
theorem VsAt.imp {R R':Vl→Value→Prop} {L:Value} {l:List Vl} (h:VsAt R w B L l) (hk:∀p:Addr,p.block<B→w'.cell? p=w.cell? p) (hB:B≤B') (hR:∀y v,R y v→R' y v):VsAt R' w' B' L l:=by
 obtain⟨p,c,h1,h2,h3,h4,h5,h⟩:=h
 refine⟨p,c,h1,h2,h3,h4,h5,fun i y hi=> ?_⟩
 obtain⟨g,off,cs,e,hg,hs,hr,hc⟩:=h i y hi
 exact⟨g,off,cs,e,Nat.lt_of_lt_of_le hg hB,hs,hR _ _ hr,fun j u hj=>(hk ⟨g,_,none⟩ hg).trans (hc j u hj)⟩
theorem PsAt.keep {P:Value} {l:List ByteArray} (h:PsAt w B P l) (hk:∀p:Addr,p.block<B→w'.cell? p=w.cell? p) (hB:B≤B'):PsAt w' B' P l:=by
 obtain⟨p,c,h1,h2,h3,h4,h⟩:=h
 refine⟨p,c,h1,h2,h3,h4,fun i y hi=> ?_⟩
 obtain⟨hs,g,off,e,hg,hc⟩:=h i y hi
 exact⟨hs,g,off,e,Nat.lt_of_lt_of_le hg hB,(hk ⟨g,_,none⟩ hg).trans hc⟩
theorem InAt.keep {b:Bool} {v:Value} (h:InAt w B b v) (hk:∀p:Addr,p.block<B→w'.cell? p=w.cell? p) (hB:B≤B'):InAt w' B' b v:=by
 unfold InAt at*
 split at h
 ·rename_i hb
  rw[if_pos hb]
  obtain⟨g,off,c,e,h1,h2,hg,hc⟩:=h
  exact⟨g,off,c,e,h1,h2,Nat.lt_of_lt_of_le hg hB,fun j u hj=>(hk ⟨g,_,none⟩ hg).trans (hc j u hj)⟩
 ·rename_i hb
  rw[if_neg hb];exact h
theorem BsAt.keep {P:Value} {l:List Bool} (h:BsAt w B P l) (hk:∀p:Addr,p.block<B→w'.cell? p=w.cell? p) (hB:B≤B'):BsAt w' B' P l:=by
 obtain⟨p,c,h1,h2,h3,h4,h⟩:=h
 refine⟨p,c,h1,h2,h3,h4,fun i y hi=> ?_⟩
 obtain⟨g,off,u,e,hg,hu,hc⟩:=h i y hi
 exact⟨g,off,u,e,Nat.lt_of_lt_of_le hg hB,hu.keep hk hB,(hk ⟨g,_,none⟩ hg).trans hc⟩
theorem Rp.keep :∀ {n:Nat} {x:Vl} {v:Value},Rp w B n x v→(∀p:Addr,p.block<B→w'.cell? p=w.cell? p)→B≤B'→Rp w' B' n x v
 |0,_,_,h,_,_=>h
 |n+1,_,_,h,hk,hB=>by
  obtain⟨L,Bs,Ps,h1,h2,h3,h4,h5,h6⟩:=h
  exact⟨L,Bs,Ps,h1,h2,h3.imp hk hB (fun y v h=>Rp.keep h hk hB),h4.keep hk hB,h5.keep hk hB,h6⟩
theorem Rp.below {n:Nat} {x:Vl} {v:Value} (h:Rp w B n x v) (hb:Below B w w') (hB:B≤B'):Rp w' B' n x v:=h.keep (fun _ hp=>hb.cell hp) hB
theorem Rp.ok {n:Nat} {x:Vl} {v:Value} (h:Rp w B n x v):VOk x:=by
 cases n with
 |zero=>exact h.elim
 |succ n=>exact h.choose_spec.choose_spec.choose_spec.2.1
end
/-- Block g holds a value's cells. -/
def World.vb (w:World) (g:Nat) (cs:Array Value):Prop:=w.heap[g]? =some (.cells cs 39 (0,0))
section
variable {w w' : World} {g : Nat} {cs cs' : Array Value}
theorem World.vb.cell (h:World.vb w g cs) {j:Nat} {u:Value} (hj:cs[j]? =some u):w.cell? ⟨g,j,none⟩=some u:=by rw[cell_of_row w g j _ _ _ h,hj]
theorem World.vb.frozen (h:World.vb w g cs) (o:Nat):w.frozen? ⟨g,o,none⟩=false:=frozen_of_row w g o _ _ h
theorem World.vb.lt (h:World.vb w g cs):g<w.heap.size:=(Array.getElem?_eq_some_iff.1 h).1
theorem World.vb.alloc (h:World.vb w g cs) (o:Obj):World.vb (w.alloc o) g cs:=by unfold World.vb;rw[heap_alloc_old w o h.lt];exact h
theorem World.vb.drew (h:World.vb w g cs):World.vb w.drew g cs:=h
theorem World.vb.drewN (h:World.vb w g cs) (n:Nat):World.vb (w.drewN n) g cs:=h
theorem World.vb.other (h:World.vb w g cs) {a:Addr} (hne:g≠a.block) (v:Value):World.vb (w.setCell a v) g cs:=by unfold World.vb;rw[heap_setCell_other w a g v hne];exact h
theorem World.vb.below {B:Nat} (h:World.vb w g cs) (hb:Below B w w') (hlt:g<B):World.vb w' g cs:=by unfold World.vb;rw[hb.block g hlt];exact h
theorem World.vb.grown {row:Option Nat} (h:World.vb w g cs) (hg:w.grownBy w' row) (hne:some g≠row):World.vb w' g cs:=by unfold World.vb;rw[hg.block g h.lt hne];exact h
theorem World.vb_new (w:World) (cs:Array Value):World.vb (w.alloc (.cells cs 39)) w.heap.size cs:=heap_alloc_new w _
theorem World.vb_new' (w:World) (cs:Array Value) (n:Nat) (hn:n=w.heap.size):World.vb (w.alloc (.cells cs 39)) n cs:=by subst hn;exact heap_alloc_new w _
theorem World.vb.setRow (h:World.vb w g cs):World.vb (w.setRow g cs') g cs':=by unfold World.vb;exact setRow_heap w g _ _ 39 _ h
theorem World.vb.set (h:World.vb w g cs) (k:Nat) (v:Value):World.vb (w.setCell ⟨g,k,none⟩ v) g (cs.setIfInBounds k v):=by
 unfold World.vb;rw[heap_setCell_same w g k _ 39 _ h]
end
theorem info34 :(Tryz.prog.info? 39).map (·.size)=some 12:=by kernel_rfl
def vz :Array Value:=vcs {} nilS nilS nilS
theorem zero34 (w:World):(zeroValue 39).run Tryz.prog w= .ok (.agg vz) w:=by kernel_rfl
/-- Every cell of a value is one cell. -/
def OneC (cs:Array Value):Prop:=cs.size=12∧cs.all (·.oneCell')=true
theorem vcs_one (x:Vl) (p q r:Option Addr) (a b c d e f:Nat):OneC (vcs x (.slice p a b) (.slice q c d) (.slice r e f)):=⟨rfl,by simp[vcs,Value.oneCell']⟩
section
variable {ops : Array Oper} {rest : List Oper} {o : Oper} {a : Act} {w : World} {K : Act → World → Prop} {Q : Exit → Act → World → Prop}
theorem wpList_alloc34 (hgd:o.guard=none) (ho:o.op= .alloc 39)
 (h:wpList Tryz.prog ops Q rest (a.put o.dst (.pointer (some ⟨w.heap.size,0,none⟩))) (w.alloc (.cells vz 39))):wpList Tryz.prog ops Q (o :: rest) a w:=
 wpList_plain hgd fun K hK=>by
  have hz:=zero34 w
  unfold Oper.wp execOp
  simp[ho,Instr.alloc,Sem.run_bind,hz,newVar,newRow,newObj,Value.cells]
  exact hK _ _ h
theorem wpList_load34 {x:Operand} {g:Nat} {cs:Array Value} (hgd:o.guard=none) (ho:o.op= .load 39 x) (hx:a.eval x= .pointer (some ⟨g,0,none⟩)) (hn:World.vb w g cs) (hs:cs.size=12)
 (h:wpList Tryz.prog ops Q rest (a.put o.dst (.agg cs)) w):wpList Tryz.prog ops Q (o :: rest) a w:=
 wpList_load_row hgd 39 x ho g hx 39 _ (0,0) _ hn Tryz.underlying39 rfl (by rw[hs];exact info34) h
theorem wpList_store34 {x y:Operand} {g:Nat} {cs cs':Array Value} (hgd:o.guard=none) (ho:o.op= .store 39 x y) (hx:a.eval x= .pointer (some ⟨g,0,none⟩)) (hy:a.eval y= .agg cs')
 (hn:World.vb w g cs) (hs:cs.size=12) (h1:OneC cs') (h:∀w1,World.vb w1 g cs'→w.grownBy w1 (some g)→w1.heap.size=w.heap.size→wpList Tryz.prog ops Q rest (a.put o.dst undef) w1):wpList Tryz.prog ops Q (o :: rest) a w:=
 wpList_store_row hgd 39 x y ho g _ hx hy 39 _ hn (by rw[h1.1];exact info34) (by rw[hs,h1.1]) h1.2 (h _ hn.setRow (setRow_grownBy _ _ _) (by simp))
end
end Go.Proofs.YtmhfioimgllgeaaGreatDoor
namespace Go.Proofs.YtmhfioimgllgeaaGreatDoor
open Go Go.RowKit
/-- A plain value's cells. -/
abbrev pcs (x:Vl):Array Value:=vcs x nilS nilS nilS
theorem pcs_one (x:Vl):OneC (pcs x):=vcs_one x none none none 0 0 0 0 0 0
theorem build_num (M E:Int) (w:World):(Instr.build 39 #[(0,.int .i64 1),(1,.agg #[.int .i64 M,.int .i64 E])]).run Tryz.prog w= .ok (.agg (pcs (numV (M,E)))) w:=by kernel_rfl
theorem build_txt (s:ByteArray) (w:World):(Instr.build 39 #[(0,.int .i64 2),(2,.string s)]).run Tryz.prog w= .ok (.agg (pcs (txtV s))) w:=by kernel_rfl
theorem build_tr (b:Bool) (w:World):(Instr.build 39 #[(0,.int .i64 3),(3,.bool b)]).run Tryz.prog w= .ok (.agg (pcs (trV b))) w:=by kernel_rfl
theorem build_err (n:Int) (w:World):(Instr.build 39 #[(0,.int .i64 4),(4,.int .i64 n)]).run Tryz.prog w= .ok (.agg (pcs (errV n))) w:=by kernel_rfl
theorem build_zero (w:World):(Instr.build 39 #[]).run Tryz.prog w= .ok (.agg (pcs {})) w:=by kernel_rfl
section
variable {ops : Array Oper} {rest : List Oper} {o : Oper} {a : Act} {w : World} {Q : Exit → Act → World → Prop}
theorem wpList_build_num {x:Operand} {M E:Int} (hgd:o.guard=none) (ho:o.op= .build 39 #[(0,.const (.int .i64 1)),(1,x)]) (hx:a.eval x= .agg #[.int .i64 M,.int .i64 E])
 (h:wpList Tryz.prog ops Q rest (a.put o.dst (.agg (pcs (numV (M,E))))) w):wpList Tryz.prog ops Q (o :: rest) a w:=
 wpList_plain hgd fun K hK=>by
  have hz:=build_num M E w
  have he:a.eval (.const (.int .i64 1))= .int .i64 1:=rfl
  unfold Oper.wp execOp
  simp[ho,hx,he,hz]
  exact hK _ _ h
theorem wpList_build_txt {x:Operand} {s:ByteArray} (hgd:o.guard=none) (ho:o.op= .build 39 #[(0,.const (.int .i64 2)),(2,x)]) (hx:a.eval x= .string s)
 (h:wpList Tryz.prog ops Q rest (a.put o.dst (.agg (pcs (txtV s)))) w):wpList Tryz.prog ops Q (o :: rest) a w:=
 wpList_plain hgd fun K hK=>by
  have hz:=build_txt s w
  have he:a.eval (.const (.int .i64 2))= .int .i64 2:=rfl
  unfold Oper.wp execOp
  simp[ho,hx,he,hz]
  exact hK _ _ h
theorem wpList_build_tr {x:Operand} {b:Bool} (hgd:o.guard=none) (ho:o.op= .build 39 #[(0,.const (.int .i64 3)),(3,x)]) (hx:a.eval x= .bool b)
 (h:wpList Tryz.prog ops Q rest (a.put o.dst (.agg (pcs (trV b)))) w):wpList Tryz.prog ops Q (o :: rest) a w:=
 wpList_plain hgd fun K hK=>by
  have hz:=build_tr b w
  have he:a.eval (.const (.int .i64 3))= .int .i64 3:=rfl
  unfold Oper.wp execOp
  simp[ho,hx,he,hz]
  exact hK _ _ h
theorem wpList_build_err {x:Operand} {n:Int} (hgd:o.guard=none) (ho:o.op= .build 39 #[(0,.const (.int .i64 4)),(4,x)]) (hx:a.eval x= .int .i64 n)
 (h:wpList Tryz.prog ops Q rest (a.put o.dst (.agg (pcs (errV n)))) w):wpList Tryz.prog ops Q (o :: rest) a w:=
 wpList_plain hgd fun K hK=>by
  have hz:=build_err n w
  have he:a.eval (.const (.int .i64 4))= .int .i64 4:=rfl
  unfold Oper.wp execOp
  simp[ho,hx,he,hz]
  exact hK _ _ h
theorem wpList_build_zero (hgd:o.guard=none) (ho:o.op= .build 39 #[])
 (h:wpList Tryz.prog ops Q rest (a.put o.dst (.agg (pcs {}))) w):wpList Tryz.prog ops Q (o :: rest) a w:=
 wpList_plain hgd fun K hK=>by
  have hz:=build_zero w
  unfold Oper.wp execOp
  simp[ho,hz]
  exact hK _ _ h
end
/-- A value is handed back, and what lay there lies. -/
def Gives (v:Value) (w:World) (e:Ending) (w':World):Prop:=e= .returned v∧Below w.heap.size w w'
set_option maxHeartbeats 1000000 in
theorem number_any (M E:Int) (w:World):Calls Tryz.prog 99 #[.agg #[.int .i64 M,.int .i64 E]] w (Gives (.agg (pcs (numV (M,E)))) w):=by
 go_enter Tryz.func99,Tryz.ntmps99
 go_wp2_with (first|refine wpList_alloc34 rfl rfl ?_|refine wpList_build_num rfl rfl (by rfl) ?_|(refine wpList_store34 rfl rfl rfl rfl (World.vb_new' _ _ _ (by simp)) (by rfl) (pcs_one _) ?_;intro w1 hn1 hg1 hz1))
 refine bodyPost_ret (results_cell_row rfl _ _ _ 39 _ (0,0) _ rfl hn1 Tryz.underlying39 rfl info34) rfl ?_
 exact⟨rfl,(((Below.refl _ w).alloc (Nat.le_refl _) _).alloc (by simp) _).grown hg1 (by simp;omega) (fun k hk=>by cases hk;simp)⟩
set_option maxHeartbeats 1000000 in
theorem said_any (s:ByteArray) (w:World):Calls Tryz.prog 100 #[.string s] w (Gives (.agg (pcs (txtV s))) w):=by
 go_enter Tryz.func100,Tryz.ntmps100
 go_wp2_with (first|refine wpList_alloc34 rfl rfl ?_|refine wpList_build_txt rfl rfl (by rfl) ?_|(refine wpList_store34 rfl rfl rfl rfl (World.vb_new' _ _ _ (by simp)) (by rfl) (pcs_one _) ?_;intro w1 hn1 hg1 hz1))
 refine bodyPost_ret (results_cell_row rfl _ _ _ 39 _ (0,0) _ rfl hn1 Tryz.underlying39 rfl info34) rfl ?_
 exact⟨rfl,(((Below.refl _ w).alloc (Nat.le_refl _) _)).grown hg1 (by simp) (fun k hk=>by cases hk;simp)⟩
set_option maxHeartbeats 1000000 in
theorem truth_any (b:Bool) (w:World):Calls Tryz.prog 102 #[.bool b] w (Gives (.agg (pcs (trV b))) w):=by
 go_enter Tryz.func102,Tryz.ntmps102
 go_wp2_with (first|refine wpList_alloc34 rfl rfl ?_|refine wpList_build_tr rfl rfl (by rfl) ?_|(refine wpList_store34 rfl rfl rfl rfl (World.vb_new' _ _ _ (by simp)) (by rfl) (pcs_one _) ?_;intro w1 hn1 hg1 hz1))
 refine bodyPost_ret (results_cell_row rfl _ _ _ 39 _ (0,0) _ rfl hn1 Tryz.underlying39 rfl info34) rfl ?_
 exact⟨rfl,(((Below.refl _ w).alloc (Nat.le_refl _) _)).grown hg1 (by simp) (fun k hk=>by cases hk;simp)⟩
set_option maxHeartbeats 1000000 in
theorem err_any (n:Int) (w:World):Calls Tryz.prog 103 #[.int .i64 n] w (Gives (.agg (pcs (errV n))) w):=by
 go_enter Tryz.func103,Tryz.ntmps103
 go_wp2_with (first|refine wpList_alloc34 rfl rfl ?_|refine wpList_build_err rfl rfl (by rfl) ?_|(refine wpList_store34 rfl rfl rfl rfl (World.vb_new' _ _ _ (by simp)) (by rfl) (pcs_one _) ?_;intro w1 hn1 hg1 hz1))
 refine bodyPost_ret (results_cell_row rfl _ _ _ 39 _ (0,0) _ rfl hn1 Tryz.underlying39 rfl info34) rfl ?_
 exact⟨rfl,(((Below.refl _ w).alloc (Nat.le_refl _) _)).grown hg1 (by simp) (fun k hk=>by cases hk;simp)⟩
end Go.Proofs.YtmhfioimgllgeaaGreatDoor
namespace Go.Proofs.YtmhfioimgllgeaaGreatDoor
open Go Go.RowKit
/-- Block g has n bytes, at j the byte f j. -/
structure ByAt (w:World) (g n:Nat) (f:Nat→UInt8):Prop where
 cell:∀j,j<n→w.cell? ⟨g,j,none⟩=some (.int .u8 ((f j).toNat:Int))
 free:∀j,j<n→w.frozen? ⟨g,j,none⟩=false
 lt:g<w.heap.size
section
variable {w : World} {g n : Nat} {f f' : Nat → UInt8}
theorem ByAt.set (h:ByAt w g n f) {k:Nat} (hk:k<n) (c:UInt8):ByAt (w.setCell ⟨g,k,none⟩ (.int .u8 (c.toNat:Int))) g n (fun j=>if j=k then c else f j):=by
 refine⟨fun j hj=> ?_,fun j hj=>by rw[World.frozen?_setCell];exact h.free j hj,by simpa using h.lt⟩
 by_cases e:j=k
 ·subst e
  rw[World.cell?_setCell_same w _ _ (h.cell j hj),if_pos rfl]
 ·rw[World.cell?_setCell_other w _ _ _ (by intro e';injection e' with _ e' _;exact e e'.symm),h.cell j hj,if_neg e]
theorem ByAt.congr (h:ByAt w g n f) (he:∀j,j<n→f j=f' j):ByAt w g n f':=⟨fun j hj=>by rw[←he j hj];exact h.cell j hj,h.free,h.lt⟩
theorem ByAt.drewN (h:ByAt w g n f) (k:Nat):ByAt (w.drewN k) g n f:=⟨h.cell,h.free,h.lt⟩
theorem ByAt.drew (h:ByAt w g n f):ByAt w.drew g n f:=⟨h.cell,h.free,h.lt⟩
theorem ByAt.back (h:ByAt w g n f) {l:List UInt8} {cap:Nat} (hl:l.length=n) (hf:∀j (hj:j<l.length),f j=l[j]):(convert 85 9 (.slice (some ⟨g,0,none⟩) n cap)).run Tryz.prog w= .ok (.string ⟨l.toArray⟩) w:=by
 subst hl
 refine run_convert_bytes_back w 85 9 5 ⟨g,0,none⟩ cap l Tryz.underlying85 Tryz.underlying5 Tryz.underlying9 (fun j hj=> ?_)
 have:=h.cell j hj
 rw[hf j hj]at this
 rw[←this]
 unfold Addr.add
 by_cases e:j=0<;>simp[e]
end
/-- A text as bytes, in a new block. -/
theorem bytes_new (w:World) (s:ByteArray):∃(W:World) (cap:Nat),(convert 9 85 (.string s)).run Tryz.prog w= .ok (.slice (some ⟨w.heap.size,0,none⟩) s.size cap) W∧ByAt W w.heap.size s.size (fun j=>s.data.toList.getD j 0)∧Below w.heap.size w W:=by
 refine⟨_,_,run_bytes_of_string w 9 85 5 s Tryz.underlying9 Tryz.underlying85 Tryz.underlying5,⟨fun j hj=> ?_,fun j hj=> ?_,by simp⟩,(Below.refl _ w).drew.alloc (Nat.le_refl _) _⟩
 ·show(w.drew.alloc _).cell? ⟨w.drew.heap.size,j,none⟩=_
  rw[World.cell?_alloc_mark,bytesRow_at _ _ _ hj]
  simp only[List.getD_eq_getElem?_getD]
  rw[List.getElem?_eq_getElem (by simpa using hj)]
  rfl
 ·show(w.drew.alloc _).frozen? ⟨w.drew.heap.size,j,none⟩=_
  rw[World.frozen?_alloc_mark]
  have:s.data.size≤(bytesRow s (grownCap w s.size 0 5)).size:=by unfold bytesRow;simp
  have:¬(bytesRow s (grownCap w s.size 0 5)).size≤j:=by
   have hj':j<s.data.size:=hj
   omega
  simp[this]
def foldS (s:ByteArray):ByteArray:=mk (lowL s.data.toList)
theorem lowL_at (s:ByteArray) (j:Nat) (hj:j<(lowL s.data.toList).length):lowC (s.data.toList.getD j 0)=(lowL s.data.toList)[j]:=by
 have h2:j<s.data.toList.length:=by simpa [lowL]using hj
 simp only[lowL,List.getElem_map,List.getD_eq_getElem?_getD]
 rw[List.getElem?_eq_getElem h2]
 rfl
theorem lowC_up {c:UInt8} (h:65≤c.toNat∧c.toNat≤90):((lowC c).toNat:Int)=(c.toNat:Int)+32:=by
 unfold lowC
 rw[if_pos h,UInt8.toNat_add]
 have:(32:UInt8).toNat=32:=rfl
 rw[this]
 omega
theorem lowC_no {c:UInt8} (h:¬(65≤c.toNat∧c.toNat≤90)):lowC c=c:=by unfold lowC;rw[if_neg h]
set_option maxRecDepth 100000 in
set_option maxHeartbeats 2000000 in
theorem fold_any (s:ByteArray) (w:World) (hs:s.size≤4294967280):Calls Tryz.prog 110 #[.string s] w (Gives (.string (foldS s)) w):=by
 obtain⟨W,cap,hconv,hby,hB⟩:=bytes_new w s
 have hlt:=hby.lt
 go_enter Tryz.func110,Tryz.ntmps110
 go_wp2
 clear hconv
 go_loopw [10] (fun i wr=>∃K:Nat,K≤s.size∧i= .int .i64 (K:Int)∧ByAt wr w.heap.size s.size (fun j=>if j<K then lowC (s.data.toList.getD j 0)else s.data.toList.getD j 0)∧Below w.heap.size w wr) (fun i _=>s.size-(intOf i).toNat)
 case atStart=>exact⟨0,Nat.zero_le _,rfl,hby.congr (fun j _=>by simp),hB⟩
 case round=>
  obtain⟨K,hK,rfl,hb,hBr⟩:=hrel
  clear hby hB
  by_cases hlt2:K<s.size
  ·have hKI:(K:Int)<(s.size:Int):=by omega
   obtain⟨c,hc⟩:∃c,s.data.toList.getD K 0=c:=⟨_,rfl⟩
   have h0:=hb.cell K hlt2
   have hf:=hb.free K hlt2
   rw[if_neg (by omega),hc]at h0
   have hc256:c.toNat<256:=UInt8.toNat_lt _
   by_cases hr:65≤c.toNat∧c.toNat≤90
   ·have hr1:(65:Int)≤(c.toNat:Int):=by omega
    have hr2:(c.toNat:Int)≤90:=by omega
    have HS:Hid (∀v:Int,v=(c.toNat:Int)+32→ByAt (wr.setCell ⟨w.heap.size,K,none⟩ (.int .u8 v)) w.heap.size s.size (fun j=>if j<K+1 then lowC (s.data.toList.getD j 0)else s.data.toList.getD j 0)):=Lib.hid fun v hv=>by
     have:=hb.set hlt2 (lowC c)
     rw[lowC_up hr,←hv]at this
     refine this.congr (fun j _=> ?_)
     by_cases e:j=K
     ·subst e;rw[if_pos rfl,if_pos (by omega),hc]
     ·rw[if_neg e]
      by_cases e2:j<K
      ·rw[if_pos e2,if_pos (by omega)]
      ·rw[if_neg e2,if_neg (by omega)]
    clear hb hc hr
    go_wp2
    go_roundw
    case rel=>exact⟨K+1,by omega,by go_num,HS.out _ (by omega),hBr.setCell (Nat.le_refl _) _⟩
    case measure=>simp[intOf];omega
   ·have HS:Hid (ByAt wr w.heap.size s.size (fun j=>if j<K+1 then lowC (s.data.toList.getD j 0)else s.data.toList.getD j 0)):=Lib.hid (hb.congr (fun j _=>by
     by_cases e:j=K
     ·subst e;rw[if_neg (by omega),if_pos (by omega),hc,lowC_no hr]
     ·by_cases e2:j<K
      ·rw[if_pos e2,if_pos (by omega)]
      ·rw[if_neg e2,if_neg (by omega)]))
    clear hb hc
    rcases(by omega:c.toNat<65∨(65≤c.toNat∧90<c.toNat))with hr'|⟨hr1,hr2⟩
    ·have hr1:(c.toNat:Int)<65:=by omega
     clear hr
     go_wp2
     go_roundw
     case rel=>exact⟨K+1,by omega,by go_num,HS.out,hBr⟩
     case measure=>simp[intOf];omega
    ·have hr1:(65:Int)≤(c.toNat:Int):=by omega
     have hr2:(90:Int)<(c.toNat:Int):=by omega
     clear hr
     go_wp2
     go_roundw
     case rel=>exact⟨K+1,by omega,by go_num,HS.out,hBr⟩
     case measure=>simp[intOf];omega
  ·have hKI:¬(K:Int)<(s.size:Int):=by omega
   have hback:=hb.back (l:=lowL s.data.toList) (cap:=cap) (by simp[lowL]) (fun j hj=>by
    have:j<s.size:=by simpa [lowL]using hj
    show(if j<K then _ else _)=_
    rw[if_pos (by omega),lowL_at s j hj])
   clear hb
   go_wp2
   go_ret
   exact⟨rfl,hBr⟩
theorem foldS_list (s:ByteArray):(foldS s).toList=lowL s.data.toList:=by
 rw[ByteArray.toList_eq]
 rfl
theorem ret_tup2 {a b c d:Bool} (h:a=c) (h':b=d):Ending.returned (.tuple #[.bool a,.bool b])= .returned (.tuple #[.bool c,.bool d]):=by rw[h,h']
set_option maxHeartbeats 1000000 in
theorem truths_any (s:ByteArray) (w:World) (hs:s.size≤4294967280):Calls Tryz.prog 286 #[.string s] w (Gives (.tuple #[.bool ((truthL s.data.toList).getD false),.bool (truthL s.data.toList).isSome]) w):=by
 by_cases h1:lowL s.data.toList=trueL
 ·have HT:Hid (truthL s.data.toList=some true):=by show _=_;rw[truthL,if_pos h1]
  have e1:(foldS s).toList= [116,114,117,101]:=by rw[foldS_list,h1];rfl
  clear h1
  go_enter Tryz.func286,Tryz.ntmps286
  go_wp2_with (go_at_call 110;refine(fold_any s _ hs).mono ?_;rintro e w1 ⟨rfl,hB⟩)
  go_ret2
  exact⟨ret_tup2 (by rw[HT.out];rfl) (by rw[HT.out];rfl),hB⟩
 by_cases h2:lowL s.data.toList=falseL
 ·have HT:Hid (truthL s.data.toList=some false):=by show _=_;rw[truthL,if_neg h1,if_pos h2]
  have e1:(foldS s).toList= [102,97,108,115,101]:=by rw[foldS_list,h2];rfl
  clear h1 h2
  go_enter Tryz.func286,Tryz.ntmps286
  go_wp2_with (go_at_call 110;refine(fold_any s _ hs).mono ?_;rintro e w1 ⟨rfl,hB⟩)
  go_ret2
  exact⟨ret_tup2 (by rw[HT.out];rfl) (by rw[HT.out];rfl),hB⟩
 ·have HT:Hid (truthL s.data.toList=none):=by show _=_;rw[truthL,if_neg h1,if_neg h2]
  have e1:¬(foldS s).toList= [116,114,117,101]:=by rw[foldS_list];exact h1
  have e2:¬(foldS s).toList= [102,97,108,115,101]:=by rw[foldS_list];exact h2
  clear h1 h2
  go_enter Tryz.func286,Tryz.ntmps286
  go_wp2_with (go_at_call 110;refine(fold_any s _ hs).mono ?_;rintro e w1 ⟨rfl,hB⟩)
  go_ret2
  exact⟨ret_tup2 (by rw[HT.out];simp[e1]) (by rw[HT.out];simp[e1,e2]),hB⟩
end Go.Proofs.YtmhfioimgllgeaaGreatDoor
