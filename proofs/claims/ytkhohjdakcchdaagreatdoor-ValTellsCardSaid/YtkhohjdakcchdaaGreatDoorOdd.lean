/- A value that need not be right. (By genOdd.py.) -/
import Derived.Test.YtkhohjdakcchdaaGreatDoorBb
import Derived.Test.YtkhohjdakcchdaaGreatDoorTol
namespace Go.Proofs.YtkhohjdakcchdaaGreatDoor
open Go Go.RowKit Go.Shelf
/-- Some value is handed back, three deep at most. -/
def HandsR (w:World) (e:Ending) (w':World):Prop:=∃x C,e= .returned (.agg C)∧Rp w' w'.heap.size 3 x (.agg C)∧Below w.heap.size w w'
section
variable {ops : Array Oper} {rest : List Oper} {o : Oper} {a : Act} {w : World} {K : Act → World → Prop} {Q : Exit → Act → World → Prop}
theorem yields23 {x:Operand} {g off:Nat} {cs:Array Value} (ho:o.op= .load 23 x) (hx:a.eval x= .pointer (some ⟨g,off,none⟩)) (hs:cs.size=2) (hc:∀j u,cs[j]? =some u→w.cell? ⟨g,off+j,none⟩=some u):(execOp a.eval o).run Tryz.prog w= .ok (.value (.agg cs)) w:=by
 have:=run_load_at w g off 23 cs _ hc Tryz.underlying23 rfl (by rw[hs];exact info23)
 unfold execOp
 simp only[ho,hx,Instr.loadAt,Instr.sureAddr,Sem.run_bind,Sem.run_pure,Result.andThen_ok,this]
theorem wpList_load23at {x:Operand} {g off:Nat} {cs:Array Value} (hgd:o.guard=none) (ho:o.op= .load 23 x) (hx:a.eval x= .pointer (some ⟨g,off,none⟩)) (hs:cs.size=2) (hc:∀j u,cs[j]? =some u→w.cell? ⟨g,off+j,none⟩=some u) (h:wpList Tryz.prog ops Q rest (a.put o.dst (.agg cs)) w):wpList Tryz.prog ops Q (o :: rest) a w:=
 wpList_plain hgd fun K hK=>by
  have:=run_load_at w g off 23 cs _ hc Tryz.underlying23 rfl (by rw[hs];exact info23)
  unfold Oper.wp execOp
  simp only[ho,hx,Instr.loadAt,Instr.sureAddr,Sem.run_bind,Sem.run_pure,Result.andThen_ok,this]
  exact hK _ _ h
end
theorem mk29 (q:Nat) (hq:q≤2) (w:World):(Instr.makeSlice 29 (.int .i64 (q:Int)) (.int .i64 (q:Int))).run Tryz.prog w= .ok (.slice (some ⟨w.heap.size,0,none⟩) q q) (w.alloc (.cells (Array.replicate q nilS) 72)):=by
 rcases(by omega:q=0∨q=1∨q=2)with rfl|rfl|rfl<;>kernel_rfl
theorem mk30 (q:Nat) (hq:q≤2) (w:World):(Instr.makeSlice 30 (.int .i64 (q:Int)) (.int .i64 (q:Int))).run Tryz.prog w= .ok (.slice (some ⟨w.heap.size,0,none⟩) q q) (w.alloc (.cells (Array.replicate q (.string ⟨#[]⟩)) 9)):=by
 rcases(by omega:q=0∨q=1∨q=2)with rfl|rfl|rfl<;>kernel_rfl
theorem op_mk29 {ops:Array Oper} {o:Oper} {a:Act} {w:World} {K:Act→World→Prop} {Q:Exit→Act→World→Prop} {x y:Operand} {q:Nat} (hq:q≤2) (ho:o.op= .makeSlice 29 x y) (hx:a.eval x= .int .i64 (q:Int)) (hy:a.eval y= .int .i64 (q:Int))
 (h:∀w1,World.blk w1 w.heap.size 72 (Array.replicate q nilS)→Below w.heap.size w w1→w1.heap.size=w.heap.size+1→K (a.put o.dst (.slice (some ⟨w.heap.size,0,none⟩) q q)) w1):o.wp Tryz.prog a w K Q:=by
 unfold Oper.wp execOp
 simp[ho,hx,hy,mk29 q hq]
 exact h _ (blk_new _ _ _) ((Below.refl _ w).alloc (Nat.le_refl _) _) (by simp)
theorem op_mk30 {ops:Array Oper} {o:Oper} {a:Act} {w:World} {K:Act→World→Prop} {Q:Exit→Act→World→Prop} {x y:Operand} {q:Nat} (hq:q≤2) (ho:o.op= .makeSlice 30 x y) (hx:a.eval x= .int .i64 (q:Int)) (hy:a.eval y= .int .i64 (q:Int))
 (h:∀w1,World.blk w1 w.heap.size 9 (Array.replicate q (.string ⟨#[]⟩))→Below w.heap.size w w1→w1.heap.size=w.heap.size+1→K (a.put o.dst (.slice (some ⟨w.heap.size,0,none⟩) q q)) w1):o.wp Tryz.prog a w K Q:=by
 unfold Oper.wp execOp
 simp[ho,hx,hy,mk30 q hq]
 exact h _ (blk_new _ _ _) ((Below.refl _ w).alloc (Nat.le_refl _) _) (by simp)
theorem build_fn (q:Int) (P:ByteArray) (p p':Option Addr) (a b c d:Nat) (w:World):(Instr.build 34 #[(0,.int .i64 6),(8,.int .i64 q),(2,.string P),(9,.agg #[.slice p a b,.slice p' c d])]).run Tryz.prog w= .ok (.agg (vcs {k:=6,fn:=q,s:=P} nilS (.slice p a b) (.slice p' c d))) w:=by kernel_rfl
theorem pure_size (s:ByteArray):(pureS s).size≤1000:=by
 have h:=valP_plain 2 0 0 s false
 have e:valP 2 0 0 s false=txtV (pureS s):=by unfold valP;rw[if_neg (by decide),if_pos (by decide)]
 rw[e]at h
 exact(rp_plain (w:=default) (B:=0) (n:=0) h).ok.s
/-- A function's value, of empty blocks and empty names. -/
theorem rp_fn {w:World} {n q2 q3 g1 g2:Nat} {q:Int} {P:ByteArray} (hq:i64R q) (hP:P.size≤1000) (h2:q2≤2) (h3:q3≤2) (b1:World.blk w g1 72 (Array.replicate q2 nilS)) (b2:World.blk w g2 9 (Array.replicate q3 (.string ⟨#[]⟩))):
 Rp w w.heap.size (n+1) {k:=6,fn:=q,s:=P,bl:=List.replicate q2 false,ps:=List.replicate q3 ⟨#[]⟩} (.agg (vcs {k:=6,fn:=q,s:=P} nilS (.slice (some ⟨g1,0,none⟩) q2 q2) (.slice (some ⟨g2,0,none⟩) q3 q3))):=by
 refine⟨nilS,_,_,rfl,⟨(show i64R 6 from i64_one (by decide) (by decide)),i64_zero,i64_zero,hP,i64_zero,i64_zero,i64_zero,hq⟩,VsAt.nil,⟨_,q2,by rw[List.length_replicate],by simp,by unfold maxLen;omega,by simp;omega,fun i b hb=> ?_⟩,⟨_,q3,by rw[List.length_replicate],by simp,by unfold maxLen;omega,by simp;omega,fun i t ht=> ?_⟩,fun h=>absurd rfl h⟩
 ·rw[List.getElem?_replicate]at hb
  split at hb
  ·rename_i hi
   injection hb with hb
   subst hb
   exact⟨g1,0,nilS,rfl,b1.lt,rfl,by rw[Nat.zero_add];exact b1.cell (by simp[hi])⟩
  ·cases hb
 ·rw[List.getElem?_replicate]at ht
  split at ht
  ·rename_i hi
   injection ht with ht
   subst ht
   exact⟨by decide,g2,0,rfl,b2.lt,by rw[Nat.zero_add];exact b2.cell (by simp[hi])⟩
  ·cases ht
theorem own_form {w:World} {base:Nat} {e:TypeId} {size:Nat} {v:Value} {n:Nat} {xs:List Value} (h:w.ownsRow base e size v n xs) (hn:0<n):∃g cap,v= .slice (some ⟨g,0,none⟩) n cap∧base≤g∧g<w.heap.size:=by
 rcases h.2 with ⟨_,h0⟩|⟨g,cap,cur,hv,hb,hg,_⟩
 ·omega
 ·exact⟨g,cap,hv,hb,(Array.getElem?_eq_some_iff.1 hg).1⟩
theorem op_store_head {ops:Array Oper} {o:Oper} {a:Act} {w:World} {K:Act→World→Prop} {Q:Exit→Act→World→Prop} {x y:Operand} {g cap n base:Nat} {xs:List Value} {C:Array Value} (hn:1≤n) (hown:w.ownsRow base 34 12 (.slice (some ⟨g,0,none⟩) n cap) n xs) (h1:OneC C)
 (ho:o.op= .store 34 x y) (hx:a.eval x= .pointer (some ⟨g,0,none⟩)) (hy:a.eval y= .agg C)
 (h:∀w1,w1.ownsRow base 34 12 (.slice (some ⟨g,0,none⟩) n cap) n (C.toList++xs.drop 12)→w.grownBy w1 (some g)→w1.heap.size=w.heap.size→K (a.put o.dst undef) w1):o.wp Tryz.prog a w K Q:=by
 obtain⟨hxs,hr⟩:=hown
 rcases hr with ⟨e,_⟩|⟨g',cap',cur,e,hg,hb,hc1,hc2,hc3,hc4⟩
 ·cases e
 ·injection e with e1 e2 e3
  injection e1 with e1
  injection e1 with e1
  subst e1 e3
  have hCl:C.toList.length=12:=by rw[Array.length_toList,h1.1]
  have hs:=run_storeCells_at Tryz.prog g 0 34 C.toList 0 cur w hb (by rw[hCl];omega) (fun v hv=>(Array.all_eq_true_iff_forall_mem.1 h1.2) v (by simpa using hv))
  have hi:=info34
  cases hq:Tryz.prog.info? 34 with
  |none=>simp[hq]at hi
  |some i=>
   have hsz:C.size=i.size:=by simp[hq]at hi;rw[h1.1];omega
   have hst:(storeVar 34 ⟨g,0,none⟩ (.agg C)).run Tryz.prog w= .ok () (w.setRow g (cur.toList.take (0+0)++C.toList++cur.toList.drop (0+0+C.toList.length)).toArray):=by
    simp[storeVar,sizeOf,typeInfo,hq,Value.cells,hsz,hs]
   unfold Oper.wp execOp
   simp only[ho,hx,hy,Instr.storeAt,Instr.sureAddr,Sem.run_bind,Sem.run_pure,Result.andThen_ok,hst]
   refine h _ ⟨?_,.inr ⟨g,cap,_,rfl,hg,setRow_heap w g _ _ 34 _ hb,hc1,hc2,?_,?_⟩⟩ (setRow_grownBy _ _ _) (by simp)
   ·rw[List.length_append,List.length_drop,hCl,hxs];omega
   ·rw[List.size_toArray,Nat.zero_add,List.take_zero,List.nil_append,List.length_append,List.length_drop,hCl,Array.length_toList];omega
   ·rw[List.toList_toArray,Nat.zero_add,List.take_zero,List.nil_append,hCl,List.take_append,hCl,List.take_of_length_le (by omega),←hc4,List.drop_take]
theorem rp_inner {w:World} {q:Int} {g:Nat} (hq:i64R q) (hb:World.vb w g (pcs {})):Rp w w.heap.size 2 {k:=q,rows:=1,cols:=1,l:= [{}]} (.agg (vcs {k:=q,rows:=1,cols:=1} (.slice (some ⟨g,0,none⟩) 1 1) nilS nilS)):=by
 refine⟨_,nilS,nilS,rfl,⟨hq,i64_zero,i64_zero,(show(⟨#[]⟩:ByteArray).size≤1000 by decide),i64_zero,(show i64R 1 from i64_one (by decide) (by decide)),(show i64R 1 from i64_one (by decide) (by decide)),i64_zero⟩,⟨_,1,rfl,Nat.le_refl _,by unfold maxLen;omega,by simp,fun h=>(by cases h),fun i y hi=> ?_⟩,BsAt.nil,PsAt.nil,fun _=>⟨fun _=>rfl,fun _=>rfl⟩⟩
 match i,hi with
 |0,hi=>
  injection hi with hi
  subst hi
  exact⟨g,0,pcs {},rfl,hb.lt,rfl,rp_plain plain_zero,fun j u hj=>by rw[show 0+0*12+j=j by omega];exact hb.cell hj⟩
theorem rp_arr2 {w:World} {base g cap:Nat} {R Q:Int} {y:Vl} {t:List Vl} {C:Array Value} (hown:w.ownsRow base 34 12 (.slice (some ⟨g,0,none⟩) (t.length+1) cap) (t.length+1) (C.toList++vsC t)) (hC:OneC C) (hi:Rp w w.heap.size 2 y (.agg C)) (ht:∀x∈t,plainV x=true) (hl:t.length+1≤1000) (hR:i64R R) (hQ:i64R Q):
 Rp w w.heap.size 3 (arrV R Q (y :: t)) (.agg (vcs (arrV R Q (y :: t)) (.slice (some ⟨g,0,none⟩) (t.length+1) cap) nilS nilS)):=by
 have hcell:=World.ownsRow.cells hown (g:=g) rfl
 obtain⟨_,hr⟩:=hown
 rcases hr with ⟨e,_⟩|⟨g',cap',cur,e,hg,hb,hc1,hc2,hc3,hc4⟩
 ·cases e
 injection e with e1 e2 e3
 injection e1 with e1
 injection e1 with e1
 subst e1 e3
 have hlt:g<w.heap.size:=(Array.getElem?_eq_some_iff.1 hb).1
 have hCl:C.toList.length=12:=by rw[Array.length_toList,hC.1]
 refine rp_arr ⟨_,cap,rfl,hc1,hc2,hl,fun h=>(by cases h),fun i x hx=> ?_⟩ ⟨(show i64R 5 from i64_one (by decide) (by decide)),i64_zero,i64_zero,(show(⟨#[]⟩:ByteArray).size≤1000 by decide),i64_zero,hR,hQ,i64_zero⟩
 match i,hx with
 |0,hx=>
  injection hx with hx
  subst hx
  refine⟨g,0,C,rfl,hlt,hC.1,hi,fun j u hj=> ?_⟩
  have hj12:j<12:=by rw[←hC.1];exact(Array.getElem?_eq_some_iff.1 hj).1
  have:=hcell j u (by rw[List.getElem?_append_left (by omega)];simpa using hj)
  rw[add_at]at this
  rw[show 0+0*12+j=0+j by omega]
  exact this
 |i+1,hx=>
  refine⟨g,0,pcs x,rfl,hlt,rfl,rp_plain (ht x (List.mem_of_getElem? (by simpa using hx))),fun j u hj=> ?_⟩
  have:=hcell ((i+1)*12+j) u (by rw[List.getElem?_append_right (by omega),hCl,show(i+1)*12+j-12=i*12+j by omega];exact vsC_at t i j (by simpa using hx) hj)
  rw[add_at]at this
  rw[Nat.add_assoc]
  exact this
theorem build_inner (q:Int) (g:Nat) (w:World):(Instr.build 34 #[(0,.int .i64 q),(5,.int .i64 1),(6,.int .i64 1),(7,.slice (some ⟨g,0,none⟩) 1 1)]).run Tryz.prog w= .ok (.agg (vcs {k:=q,rows:=1,cols:=1} (.slice (some ⟨g,0,none⟩) 1 1) nilS nilS)) w:=by kernel_rfl
theorem RawsAt.at' {w:World} {B B':Nat} {v:Value} {zs:List Rw} (h:RawsAt w B v zs) (hB:B≤B'):RawsAt w B' v zs:=by
 obtain⟨p,c,e,hl,h⟩:=h
 refine⟨p,c,e,hl,fun i z hi=> ?_⟩
 obtain⟨ho,g,off,e,hg,hc⟩:=h i z hi
 exact⟨ho,g,off,e,Nat.lt_of_lt_of_le hg hB,hc⟩
theorem cut210 (s:ByteArray):∃(M:Nat),min (s.size:Int) 210=(M:Int)∧M≤s.size∧(s.extract 0 M).size≤210:=by
 refine⟨min s.size 210,by omega,by omega,?_⟩
 rw[ByteArray.size_extract]
 omega
theorem blk_dec {w:World} {g:Nat} {k m e:Int} {s:ByteArray} {b:Bool} (h:World.blk w g 25 (rawC k m e s b)):∀j u,(#[.int .i64 m,.int .i64 e]:Array Value)[j]? =some u→w.cell? ⟨g,1+j,none⟩=some u:=by
 intro j u hj
 match j,hj with
 |0,hj=>exact h.cell (j:=1) hj
 |1,hj=>exact h.cell (j:=2) hj
theorem build_odd (k m e:Int) (s:ByteArray) (b:Bool) (w:World):(Instr.build 34 #[(0,.int .i64 k),(1,.agg #[.int .i64 m,.int .i64 e]),(2,.string s),(3,.bool b)]).run Tryz.prog w= .ok (.agg (pcs {k:=k,m:=m,e:=e,s:=s,b:=b})) w:=by kernel_rfl
set_option maxRecDepth 100000 in
set_option maxHeartbeats 16000000 in
theorem odd_all (k m e:Int) (s:ByteArray) (b:Bool) (n:Int) (v:Value) (zs:List Rw) (w:World) (hz:RwOk ⟨k,m,e,s,b⟩) (hn0:i64R n) (hr:RawsAt w w.heap.size v zs):
 Calls Tryz.prog 14 #[.agg (rawC k m e s b),v,.int .i64 n] w (HandsR w):=by
 obtain⟨pp,hp⟩:∃p,pickI n 7=p:=⟨_,rfl⟩
 have hpp:=pickI_bd n (n:=7) (by decide)
 rw[hp]at hpp
 obtain⟨M,hM,hMS,hS⟩:=cut210 s
 obtain⟨S,hSE⟩:∃S,s.extract 0 M=S:=⟨_,rfl⟩
 rw[hSE]at hS
 have HSZ:=Lib.hid hS
 have HBO:=Lib.hid (build_odd k m e S b)
 have HZ:=Lib.hid hz
 have HR:=Lib.hid hr
 have HPN:=Lib.hid (show ∀W,Calls Tryz.prog 24 #[.int .i64 n,.int .i64 7] W (fun e w'=>e= .returned (.int .i64 pp)∧w'=W)from fun W=>by rw[←hp];exact pick_any n 7 W hn0.1 hn0.2 (by decide) (by decide))
 clear hp hn0 hz hr hS
 go_enter Tryz.func14,Tryz.ntmps14
 go_upto_region 1 with refine wpList_alloc34 rfl rfl ?_
 obtain⟨W,hW⟩:∃W,W=(w.alloc (.cells (rawC k m e s b) 25)).alloc (.cells vz 34):=⟨_,rfl⟩
 rw[←hW]
 obtain⟨b3,hb3⟩:∃b,b=w.heap.size:=⟨_,rfl⟩
 obtain⟨b6,hb6⟩:∃g,g=(w.alloc (.cells (rawC k m e s b) 25)).heap.size:=⟨_,rfl⟩
 have hn3:World.blk W b3 25 (rawC k m e s b):=by rw[hW,hb3];exact(blk_new _ _ _).alloc _
 have hn6:World.vb W b6 vz:=by rw[hW,hb6];exact World.vb_new _ _
 have hB:Below w.heap.size w W:=by rw[hW];exact((Below.refl _ w).alloc (Nat.le_refl _) _).alloc (by simp) _
 rw[←hb6]
 replace hb6:b6=w.heap.size+1:=by rw[hb6];simp
 rw[←hb3]
 have hlb3:w.heap.size≤b3:=by omega
 have hlb6:w.heap.size≤b6∧b3<b6:=by omega
 clear hW hb3 hb6
 refine wp_region_held_drew (S:=(fun w9=>World.vb w9 b6 vz∧World.blk w9 b3 25 (rawC k m e s b))) (by kernel_rfl) ⟨hn6,hn3⟩ (fun hHeld=> ?_)
 have hBd:=World.drew_below W
 have hn6:=hn6.below hBd hn6.lt
 have hn3:=hn3.below hBd hn3.lt
 have hB:=hB.trans (hBd.mono hB.size)
 clear hBd
 refine tk 0 ⟨some 8,_,_,_,_,_⟩ ?_ hHeld ?_ ?_
 rotate_left
 ·(intro w9 hSw;(try dsimp only at hSw);go_simp)
  all_goals with_reducible rfl
 try simp only[Act.put,pk1,pk2,pk3]
 refine tk 1 ⟨some 9,_,_,_,_,_⟩ ?_ hHeld ?_ ?_
 rotate_left
 ·(intro w9 hSw;have d0:=hSw.2.cell (j:=0) rfl;have d3:=hSw.2.cell (j:=3) rfl;have d4:=hSw.2.cell (j:=4) rfl;clear hSw;go_simp)
  all_goals with_reducible rfl
 try simp only[Act.put,pk1,pk2,pk3]
 refine tk 2 ⟨some 10,_,_,_,_,_⟩ ?_ hHeld ?_ ?_
 rotate_left
 ·(intro w9 hSw;(try dsimp only at hSw);go_simp)
  all_goals with_reducible rfl
 try simp only[Act.put,pk1,pk2,pk3]
 refine tk 3 ⟨some 11,_,_,_,_,_⟩ ?_ hHeld ?_ ?_
 rotate_left
 ·(intro w9 hSw;refine yields23 (x:= .tmp 10) (g:=b3) (off:=1) (cs:= #[.int .i64 m,.int .i64 e]) ?_ ?_ rfl (blk_dec hSw.2)<;>rfl)
 try simp only[Act.put,pk1,pk2,pk3]
 refine tk 4 ⟨some 12,_,_,_,_,_⟩ ?_ hHeld ?_ ?_
 rotate_left
 ·(intro w9 hSw;(try dsimp only at hSw);go_simp)
  all_goals with_reducible rfl
 try simp only[Act.put,pk1,pk2,pk3]
 refine tk 5 ⟨some 13,_,_,_,_,_⟩ ?_ hHeld ?_ ?_
 rotate_left
 ·(intro w9 hSw;have d0:=hSw.2.cell (j:=0) rfl;have d3:=hSw.2.cell (j:=3) rfl;have d4:=hSw.2.cell (j:=4) rfl;clear hSw;go_simp)
  all_goals with_reducible rfl
 try simp only[Act.put,pk1,pk2,pk3]
 refine tk 6 ⟨some 14,_,_,_,_,_⟩ ?_ hHeld ?_ ?_
 rotate_left
 ·(intro w9 hSw;(try dsimp only at hSw);go_simp)
  all_goals with_reducible rfl
 try simp only[Act.put,pk1,pk2,pk3]
 refine tk 7 ⟨some 15,_,_,_,_,_⟩ ?_ hHeld ?_ ?_
 rotate_left
 ·(intro w9 hSw;have d0:=hSw.2.cell (j:=0) rfl;have d3:=hSw.2.cell (j:=3) rfl;have d4:=hSw.2.cell (j:=4) rfl;clear hSw;go_simp)
  all_goals with_reducible rfl
 try simp only[Act.put,pk1,pk2,pk3]
 refine tk 8 ⟨some 16,_,_,_,_,_⟩ ?_ hHeld ?_ ?_
 rotate_left
 ·(intro w9 hSw;(try dsimp only at hSw);go_simp)
  all_goals with_reducible rfl
 try simp only[Act.put,pk1,pk2,pk3]
 refine tk 9 ⟨some 17,_,_,_,_,_⟩ ?_ hHeld ?_ ?_
 rotate_left
 ·(intro w9 hSw;(try dsimp only at hSw);go_simp)
  all_goals with_reducible rfl
 try simp only[Act.put,pk1,pk2,pk3]
 refine tk 10 ⟨some 18,_,_,_,_,_⟩ ?_ hHeld ?_ ?_
 rotate_left
 ·(intro w9 hSw;(try dsimp only at hSw);go_simp)
  all_goals with_reducible rfl
 try simp only[Act.put,pk1,pk2,pk3]
 refine tk 11 ⟨some 19,_,_,_,_,_⟩ ?_ hHeld ?_ ?_
 rotate_left
 ·(intro w9 hSw;(try dsimp only at hSw);go_simp)
  all_goals with_reducible rfl
 try simp only[Act.put,pk1,pk2,pk3]
 refine tk 12 ⟨some 20,_,_,_,_,_⟩ ?_ hHeld ?_ ?_
 rotate_left
 ·(intro w9 hSw;have d0:=hSw.2.cell (j:=0) rfl;have d3:=hSw.2.cell (j:=3) rfl;have d4:=hSw.2.cell (j:=4) rfl;clear hSw;go_simp)
  all_goals with_reducible rfl
 try simp only[Act.put,pk1,pk2,pk3]
 refine tk 13 ⟨some 21,_,_,_,_,_⟩ ?_ hHeld ?_ ?_
 rotate_left
 ·(intro w9 hSw;go_simp;(try simp only[HBO.out]);with_reducible rfl)
 try simp only[Act.put,pk1,pk2,pk3]
 refine wpAnyH_ready (rs:= [14]) (by kernel_rfl) (by simp) ?_
 refine(AllReadyH.cons (o:=⟨some 7,_,_,_,_,_⟩) rfl (fun KK hK=> ?_) AllReadyH.nil)
 ·(try rw[if_pos (by rfl)])
  refine op_alloc34 rfl ?_
  obtain⟨w2,hw2⟩:∃w2,w2=W.drew.alloc (.cells vz 34):=⟨_,rfl⟩
  rw[←hw2]
  obtain⟨b7,hb7⟩:∃b,b=W.drew.heap.size:=⟨_,rfl⟩
  rw[←hb7]
  have hlb7:b6<b7:=by rw[hb7];exact hn6.lt
  have hn7:World.vb w2 b7 vz:=by rw[hw2,hb7];exact World.vb_new _ _
  have hn6:World.vb w2 b6 vz:=by rw[hw2];exact hn6.alloc _
  have hn3:World.blk w2 b3 25 (rawC k m e s b):=by rw[hw2];exact hn3.alloc _
  have hB:Below w.heap.size w w2:=by rw[hw2];exact hB.alloc hB.size _
  clear hw2 hb7
  refine hK.out _ _ ⟨hn6,hn3⟩ ?_
  clear hK KK hHeld
  intro hHeld
  try simp only[Act.put,pk1,pk2,pk3]
  refine wpAnyH_ready (rs:= [15]) (by kernel_rfl) (by simp) ?_
  refine(AllReadyH.cons (o:=⟨none,_,_,_,_,_⟩) rfl (fun KK hK=> ?_) AllReadyH.nil)
  ·(try rw[if_pos (by rfl)])
   refine op_store34 (cs':=pcs {k:=k,m:=m,e:=e,s:=S,b:=b}) rfl rfl (by rfl) hn7 (by rfl) (pcs_one _) ?_
   intro w3 hn7 hg3 hz3
   have hn6:=hn6.grown hg3 (by intro e9;injection e9 with e9;omega)
   have hn3:=hn3.grown hg3 (by intro e9;injection e9 with e9;omega)
   have hB:=hB.grown hg3 hB.size (fun k9 hk9=>by cases hk9;omega)
   clear hg3 hz3
   refine hK.out _ _ ⟨hn6,hn3⟩ ?_
   clear hK KK hHeld
   intro hHeld
   try simp only[Act.put,pk1,pk2,pk3]
   refine wpAnyH_done (by kernel_rfl) ?_ _
   try simp only[Act.put,pk1,pk2,pk3]
   rcases(by omega:pp=0∨pp=1∨pp=2∨pp=3∨pp=4∨pp=5∨pp=6)with rfl|rfl|rfl|rfl|rfl|rfl|rfl
   ·clear hpp
    obtain⟨q,hq⟩:∃q,pickI k 7=q:=⟨_,rfl⟩
    have HPK:=Lib.hid (show ∀W,Calls Tryz.prog 24 #[.int .i64 k,.int .i64 7] W (fun e w'=>e= .returned (.int .i64 q)∧w'=W)from fun W=>by rw[←hq];exact pick_any k 7 W HZ.out.k.1 HZ.out.k.2 (by decide) (by decide))
    have HQ:Hid (i64R q):=Lib.hid (by rw[←hq];have:=pickI_bd k (n:=7) (by decide);unfold i64R;omega)
    clear hq
    have c0:=hn3.cell (j:=0) rfl
    have c7:=hn7.cell (j:=0) rfl
    have f7:=hn7.frozen 0
    go_wp2_with fail
    refine(HPN.out _).mono ?_
    rintro e4 w4 ⟨rfl,rfl⟩
    go_wp2_with fail
    refine(HPK.out _).mono ?_
    rintro e5 w5 ⟨rfl,rfl⟩
    go_upto_region 17 with fail
    obtain⟨w6,hw6⟩:∃w6,w6=w5.setCell ⟨b7,0,none⟩ (.int .i64 q):=⟨_,rfl⟩
    rw[←hw6]
    have hn7:World.vb w6 b7 (pcs {k:=q,m:=m,e:=e,s:=S,b:=b}):=by rw[hw6];exact hn7.set 0 _
    have hn6:World.vb w6 b6 vz:=by rw[hw6];exact hn6.grown (grownBy_setCell _ _ _) (fun e9=>by injection e9 with e9;exact absurd e9 (show b6≠b7 by omega))
    have hB:Below w.heap.size w w6:=by rw[hw6];exact hB.setCell (show w.heap.size≤b7 by omega) _
    clear hw6 c0 c7 f7
    have hRP:=Lib.hid (show ∀W,Rp W W.heap.size 3 {k:=q,m:=m,e:=e,s:=S,b:=b} (.agg (pcs {k:=q,m:=m,e:=e,s:=S,b:=b}))from fun W=>rp_bare ⟨HQ.out,HZ.out.m,HZ.out.e,Nat.le_trans HSZ.out (by decide),i64_zero,i64_zero,i64_zero,i64_zero⟩ rfl rfl rfl)
    clear HZ HSZ HR HPN HBO hSE hMS hM
    go_wp2_with (first|refine wpList_load34 rfl rfl rfl hn7 rfl ?_|(refine wpList_store34 rfl rfl rfl rfl hn6 (by rfl) (pcs_one _) ?_;intro w9 hn9 hg9 hz9))
    refine bodyPost_ret (results_cell_row rfl _ _ _ 34 _ (0,0) _ rfl hn9 Tryz.underlying34 rfl info34) rfl ?_
    exact⟨_,_,rfl,hRP.out _,hB.grown hg9 hB.size (fun k9 hk9=>by cases hk9;omega)⟩
   ·clear hpp
    go_wp2_with fail
    refine(HPN.out _).mono ?_
    rintro e4 w4 ⟨rfl,rfl⟩
    have c1:=hn3.cell (j:=1) rfl
    have hRP:=Lib.hid (show ∀W,Rp W W.heap.size 3 (errV m) (.agg (pcs (errV m)))from fun W=>rp_bare (ok_err HZ.out.m) rfl rfl rfl)
    clear HZ HSZ HR HPN HBO hSE hMS hM
    go_wp2_with (first|refine wpList_load34 rfl rfl rfl hn7 rfl ?_|refine wpList_build_err rfl rfl (by rfl) ?_|refine wpList_build_num rfl rfl (by rfl) ?_|refine wpList_load23at (g:=b3) (off:=1) (cs:= #[.int .i64 m,.int .i64 e]) rfl rfl rfl rfl (blk_dec hn3) ?_|(refine wpList_store34 rfl rfl rfl rfl hn7 (by rfl) (pcs_one _) ?_;intro w8 hn7 hg8 hz8;have hn6:=hn6.grown hg8 (by intro e9;injection e9 with e9;omega);have hB:=hB.grown hg8 hB.size (fun k9 hk9=>by cases hk9;omega);clear hg8 hz8)|(refine wpList_store34 rfl rfl rfl rfl hn6 (by rfl) (pcs_one _) ?_;intro w9 hn9 hg9 hz9))
    refine bodyPost_ret (results_cell_row rfl _ _ _ 34 _ (0,0) _ rfl hn9 Tryz.underlying34 rfl info34) rfl ?_
    exact⟨_,_,rfl,hRP.out _,hB.grown hg9 hB.size (fun k9 hk9=>by cases hk9;omega)⟩
   ·clear hpp
    go_wp2_with fail
    refine(HPN.out _).mono ?_
    rintro e4 w4 ⟨rfl,rfl⟩
    obtain⟨l,hl⟩:∃l,eltL zs (sideN m*sideN e).toNat=l:=⟨_,rfl⟩
    have hRt:=arrOf_right 0 m e zs
    unfold arrOf at hRt
    rw[hl]at hRt
    have HA13:=Lib.hid (show ∀W,Below w.heap.size w W→w.heap.size≤W.heap.size→Calls Tryz.prog 13 #[.int .i64 m,.int .i64 e,v] W (HandsA (sideN m) (sideN e) l W)from fun W hW hz=>by rw[←hl];exact array_any m e zs v W HZ.out.m HZ.out.e ((HR.out.below hW).at' hz))
    have h1:=sideN_bd m
    have h2:=sideN_bd e
    obtain⟨R,hR⟩:∃R,sideN m=R:=⟨_,rfl⟩
    obtain⟨Q,hQ⟩:∃Q,sideN e=Q:=⟨_,rfl⟩
    rw[hR]at hRt HA13 h1
    rw[hQ]at hRt HA13 h2
    have HRT:=Lib.hid hRt
    clear hl hR hQ hRt
    have c1:=hn3.cell (j:=1) rfl
    have c2:=hn3.cell (j:=2) rfl
    go_wp2_with fail
    refine(HA13.out _ hB hB.size).mono ?_
    rintro e5 w5 ⟨L,rfl,hown,hB5⟩
    obtain⟨B0,hB0⟩:∃g,g=w4.heap.size:=⟨_,rfl⟩
    rw[←hB0]at hown
    have hb70:b7<B0:=by rw[hB0];exact hn7.lt
    clear hB0
    have hn7:=hn7.below hB5 hn7.lt
    have hn6:=hn6.below hB5 hn6.lt
    have hn3:=hn3.below hB5 hn3.lt
    have hB:=hB.trans (hB5.mono hB.size)
    clear hB5 c1 c2
    obtain⟨CX,hCX⟩:∃CX,vcs (arrV R Q l) L nilS nilS=CX:=⟨_,rfl⟩
    have hO:OneC CX:=by rw[←hCX];exact vr_one hown
    rw[hCX]
    go_upto_region 9 with (refine wpList_store34 rfl rfl rfl rfl hn7 (by rfl) hO ?_;intro w8 hn7 hg8 hz8)
    have hn6:=hn6.grown hg8 (by intro e9;injection e9 with e9;omega)
    have hn3:=hn3.grown hg8 (by intro e9;injection e9 with e9;omega)
    have hown:=hown.grown hg8 hb70
    have hB:=hB.grown hg8 hB.size (fun k9 hk9=>by cases hk9;omega)
    clear hg8 hz8
    obtain⟨q,hq⟩:∃q,pickI k 2=q:=⟨_,rfl⟩
    have HPK:=Lib.hid (show ∀W,Calls Tryz.prog 24 #[.int .i64 k,.int .i64 2] W (fun e w'=>e= .returned (.int .i64 q)∧w'=W)from fun W=>by rw[←hq];exact pick_any k 2 W HZ.out.k.1 HZ.out.k.2 (by decide) (by decide))
    have hqb:=pickI_bd k (n:=2) (by decide)
    rw[hq]at hqb
    clear hq
    have hw:IntKind.i64.wrap (R+q)=R+q:=IntWalk.i64_in _ (by omega)
    have H6:Hid (CX[6]? =some (.int .i64 R)):=Lib.hid (by rw[←hCX];rfl)
    refine wp_region_held_drew (S:=(fun w9=>World.blk w9 b3 25 (rawC k m e s b))) (by kernel_rfl) hn3 (fun hHeld=> ?_)
    have hBd:=World.drew_below w8
    generalize w8.drew=W9 at hBd hHeld⊢
    have hn7:=hn7.below hBd hn7.lt
    have hn6:=hn6.below hBd hn6.lt
    have hn3:=hn3.below hBd hn3.lt
    have hown:=hown.below hBd
    have hB:=hB.trans (hBd.mono hB.size)
    clear hBd
    refine tk 0 ⟨some 46,_,_,_,_,_⟩ ?_ hHeld ?_ ?_
    rotate_left
    ·(intro w9 hSw;(try dsimp only at hSw);go_simp)
     all_goals with_reducible rfl
    try simp only[Act.put,pk1,pk2,pk3]
    refine tk 2 ⟨some 48,_,_,_,_,_⟩ ?_ hHeld ?_ ?_
    rotate_left
    ·(intro w9 hSw;(try dsimp only at hSw);go_simp)
     all_goals with_reducible rfl
    try simp only[Act.put,pk1,pk2,pk3]
    refine tk 3 ⟨some 49,_,_,_,_,_⟩ ?_ hHeld ?_ ?_
    rotate_left
    ·(intro w9 hSw;have d0:=hSw.cell (j:=0) rfl;clear hSw;go_simp)
     all_goals with_reducible rfl
    try simp only[Act.put,pk1,pk2,pk3]
    refine wpAnyH_ready (rs:= [1,4]) (by kernel_rfl) (by simp) ?_
    refine(AllReadyH.cons (o:=⟨some 47,_,_,_,_,_⟩) rfl (fun KK hK=> ?_) (AllReadyH.cons (o:=⟨some 50,_,_,_,_,_⟩) rfl (fun KK hK=> ?_) AllReadyH.nil))
    ·(try rw[if_pos (by rfl)])
     have c6:=hn7.cell H6.out
     go_simp
     clear c6
     refine hK.out _ _ hn3 ?_
     clear hK KK hHeld
     intro hHeld
     try simp only[Act.put,pk1,pk2,pk3]
     refine wpAnyH_ready (rs:= [4]) (by kernel_rfl) (by simp) ?_
     refine(AllReadyH.cons (o:=⟨some 50,_,_,_,_,_⟩) rfl (fun KK hK=> ?_) AllReadyH.nil)
     ·(try rw[if_pos (by rfl)])
      go_simp
      refine(HPK.out _).mono ?_
      rintro e10 W9 ⟨rfl,rfl⟩
      refine hK.out _ _ hn3 ?_
      clear hK KK hHeld
      intro hHeld
      try simp only[Act.put,pk1,pk2,pk3]
      refine tk 5 ⟨some 51,_,_,_,_,_⟩ ?_ hHeld ?_ ?_
      rotate_left
      ·(intro w9 hSw;(try dsimp only at hSw);go_simp)
       all_goals with_reducible rfl
      try simp only[Act.put,pk1,pk2,pk3]
      refine tk 6 ⟨some 52,_,_,_,_,_⟩ ?_ hHeld ?_ ?_
      rotate_left
      ·(intro w9 hSw;(try dsimp only at hSw);go_simp)
       all_goals with_reducible rfl
      try simp only[Act.put,pk1,pk2,pk3]
      refine wpAnyH_ready (rs:= [7]) (by kernel_rfl) (by simp) ?_
      refine(AllReadyH.cons (o:=⟨none,_,_,_,_,_⟩) rfl (fun KK hK=> ?_) AllReadyH.nil)
      ·(try rw[if_pos (by rfl)])
       have c6:=hn7.cell H6.out
       have f6:=hn7.frozen 6
       go_simp
       obtain⟨w6,hw6⟩:∃w6,w6=World.setCell W9 ⟨b7,6,none⟩ (.int .i64 (R+q)):=⟨_,rfl⟩
       rw[←hw6]
       have hn7:World.vb w6 b7 (vcs {k:=5,rows:=R+q,cols:=Q,l:=l} L nilS nilS):=by rw[hw6];have:=hn7.set 6 (.int .i64 (R+q));rw[←hCX]at this;exact this
       have hn6:World.vb w6 b6 vz:=by rw[hw6];exact hn6.grown (grownBy_setCell _ _ _) (fun e9=>by injection e9 with e9;exact absurd e9 (show b6≠b7 by omega))
       have hn3:World.blk w6 b3 25 (rawC k m e s b):=by rw[hw6];exact hn3.grown (grownBy_setCell _ _ _) (fun e9=>by injection e9 with e9;exact absurd e9 (show b3≠b7 by omega))
       have hown:World.vr w6 B0 L l:=by rw[hw6];exact hown.grown (g:=b7) (grownBy_setCell _ _ _) hb70
       have hB:Below w.heap.size w w6:=by rw[hw6];exact hB.setCell (show w.heap.size≤b7 by omega) _
       clear hw6 c6 f6
       refine hK.out _ _ hn3 ?_
       clear hK KK hHeld
       intro hHeld
       try simp only[Act.put,pk1,pk2,pk3]
       refine wpAnyH_done (by kernel_rfl) ?_ _
       try simp only[Act.put,pk1,pk2,pk3]
       obtain⟨p,c,rfl⟩:=hown.shape
       go_wp2_with (first|refine wpList_load34 rfl rfl rfl hn7 rfl ?_|(refine wpList_store34 rfl rfl rfl rfl hn6 (by rfl) (vcs_one _ _ _ _ _ _ _ _ _ _) ?_;intro w9 hn9 hg9 hz9))
       have hown:=hown.grown hg9 (by omega)
       refine bodyPost_ret (results_cell_row rfl _ _ _ 34 _ (0,0) _ rfl hn9 Tryz.underlying34 rfl info34) rfl ?_
       refine⟨{k:=5,rows:=R+q,cols:=Q,l:=l},_,rfl,?_,hB.grown hg9 hB.size (fun k9 hk9=>by cases hk9;omega)⟩
       have hd:=right_arr.1 HRT.out
       refine⟨_,nilS,nilS,rfl,⟨(show i64R 5 from i64_one (by decide) (by decide)),i64_zero,i64_zero,(show(⟨#[]⟩:ByteArray).size≤1000 by decide),i64_zero,?_,?_,i64_zero⟩,hown.vsAt hd.2 (by omega) (Nat.le_refl _) (fun e=>absurd e (arr_ne HRT.out)),BsAt.nil,PsAt.nil,fun _=>⟨fun _=>rfl,fun _=>rfl⟩⟩
       ·show i64R (R+q)
        unfold i64R;omega
       ·show i64R Q
        unfold i64R;omega
    ·(try rw[if_pos (by rfl)])
     go_simp
     refine(HPK.out _).mono ?_
     rintro e10 W9 ⟨rfl,rfl⟩
     refine hK.out _ _ hn3 ?_
     clear hK KK hHeld
     intro hHeld
     try simp only[Act.put,pk1,pk2,pk3]
     refine wpAnyH_ready (rs:= [1]) (by kernel_rfl) (by simp) ?_
     refine(AllReadyH.cons (o:=⟨some 47,_,_,_,_,_⟩) rfl (fun KK hK=> ?_) AllReadyH.nil)
     ·(try rw[if_pos (by rfl)])
      have c6:=hn7.cell H6.out
      go_simp
      clear c6
      refine hK.out _ _ hn3 ?_
      clear hK KK hHeld
      intro hHeld
      try simp only[Act.put,pk1,pk2,pk3]
      refine tk 5 ⟨some 51,_,_,_,_,_⟩ ?_ hHeld ?_ ?_
      rotate_left
      ·(intro w9 hSw;(try dsimp only at hSw);go_simp)
       all_goals with_reducible rfl
      try simp only[Act.put,pk1,pk2,pk3]
      refine tk 6 ⟨some 52,_,_,_,_,_⟩ ?_ hHeld ?_ ?_
      rotate_left
      ·(intro w9 hSw;(try dsimp only at hSw);go_simp)
       all_goals with_reducible rfl
      try simp only[Act.put,pk1,pk2,pk3]
      refine wpAnyH_ready (rs:= [7]) (by kernel_rfl) (by simp) ?_
      refine(AllReadyH.cons (o:=⟨none,_,_,_,_,_⟩) rfl (fun KK hK=> ?_) AllReadyH.nil)
      ·(try rw[if_pos (by rfl)])
       have c6:=hn7.cell H6.out
       have f6:=hn7.frozen 6
       go_simp
       obtain⟨w6,hw6⟩:∃w6,w6=World.setCell W9 ⟨b7,6,none⟩ (.int .i64 (R+q)):=⟨_,rfl⟩
       rw[←hw6]
       have hn7:World.vb w6 b7 (vcs {k:=5,rows:=R+q,cols:=Q,l:=l} L nilS nilS):=by rw[hw6];have:=hn7.set 6 (.int .i64 (R+q));rw[←hCX]at this;exact this
       have hn6:World.vb w6 b6 vz:=by rw[hw6];exact hn6.grown (grownBy_setCell _ _ _) (fun e9=>by injection e9 with e9;exact absurd e9 (show b6≠b7 by omega))
       have hn3:World.blk w6 b3 25 (rawC k m e s b):=by rw[hw6];exact hn3.grown (grownBy_setCell _ _ _) (fun e9=>by injection e9 with e9;exact absurd e9 (show b3≠b7 by omega))
       have hown:World.vr w6 B0 L l:=by rw[hw6];exact hown.grown (g:=b7) (grownBy_setCell _ _ _) hb70
       have hB:Below w.heap.size w w6:=by rw[hw6];exact hB.setCell (show w.heap.size≤b7 by omega) _
       clear hw6 c6 f6
       refine hK.out _ _ hn3 ?_
       clear hK KK hHeld
       intro hHeld
       try simp only[Act.put,pk1,pk2,pk3]
       refine wpAnyH_done (by kernel_rfl) ?_ _
       try simp only[Act.put,pk1,pk2,pk3]
       obtain⟨p,c,rfl⟩:=hown.shape
       go_wp2_with (first|refine wpList_load34 rfl rfl rfl hn7 rfl ?_|(refine wpList_store34 rfl rfl rfl rfl hn6 (by rfl) (vcs_one _ _ _ _ _ _ _ _ _ _) ?_;intro w9 hn9 hg9 hz9))
       have hown:=hown.grown hg9 (by omega)
       refine bodyPost_ret (results_cell_row rfl _ _ _ 34 _ (0,0) _ rfl hn9 Tryz.underlying34 rfl info34) rfl ?_
       refine⟨{k:=5,rows:=R+q,cols:=Q,l:=l},_,rfl,?_,hB.grown hg9 hB.size (fun k9 hk9=>by cases hk9;omega)⟩
       have hd:=right_arr.1 HRT.out
       refine⟨_,nilS,nilS,rfl,⟨(show i64R 5 from i64_one (by decide) (by decide)),i64_zero,i64_zero,(show(⟨#[]⟩:ByteArray).size≤1000 by decide),i64_zero,?_,?_,i64_zero⟩,hown.vsAt hd.2 (by omega) (Nat.le_refl _) (fun e=>absurd e (arr_ne HRT.out)),BsAt.nil,PsAt.nil,fun _=>⟨fun _=>rfl,fun _=>rfl⟩⟩
       ·show i64R (R+q)
        unfold i64R;omega
       ·show i64R Q
        unfold i64R;omega
   ·clear hpp
    go_wp2_with fail
    refine(HPN.out _).mono ?_
    rintro e4 w4 ⟨rfl,rfl⟩
    obtain⟨l,hl⟩:∃l,eltL zs (sideN m*sideN e).toNat=l:=⟨_,rfl⟩
    have hRt:=arrOf_right 0 m e zs
    unfold arrOf at hRt
    rw[hl]at hRt
    have HA13:=Lib.hid (show ∀W,Below w.heap.size w W→w.heap.size≤W.heap.size→Calls Tryz.prog 13 #[.int .i64 m,.int .i64 e,v] W (HandsA (sideN m) (sideN e) l W)from fun W hW hz=>by rw[←hl];exact array_any m e zs v W HZ.out.m HZ.out.e ((HR.out.below hW).at' hz))
    have h1:=sideN_bd m
    have h2:=sideN_bd e
    obtain⟨R,hR⟩:∃R,sideN m=R:=⟨_,rfl⟩
    obtain⟨Q,hQ⟩:∃Q,sideN e=Q:=⟨_,rfl⟩
    rw[hR]at hRt HA13 h1
    rw[hQ]at hRt HA13 h2
    have HRT:=Lib.hid hRt
    clear hl hR hQ hRt
    have c1:=hn3.cell (j:=1) rfl
    have c2:=hn3.cell (j:=2) rfl
    go_wp2_with fail
    refine(HA13.out _ hB hB.size).mono ?_
    rintro e5 w5 ⟨L,rfl,hown,hB5⟩
    obtain⟨B0,hB0⟩:∃g,g=w4.heap.size:=⟨_,rfl⟩
    rw[←hB0]at hown
    have hb70:b7<B0:=by rw[hB0];exact hn7.lt
    clear hB0
    have hn7:=hn7.below hB5 hn7.lt
    have hn6:=hn6.below hB5 hn6.lt
    have hn3:=hn3.below hB5 hn3.lt
    have hB:=hB.trans (hB5.mono hB.size)
    clear hB5 c1 c2
    obtain⟨CX,hCX⟩:∃CX,vcs (arrV R Q l) L nilS nilS=CX:=⟨_,rfl⟩
    have hO:OneC CX:=by rw[←hCX];exact vr_one hown
    rw[hCX]
    go_upto_region 12 with (refine wpList_store34 rfl rfl rfl rfl hn7 (by rfl) hO ?_;intro w8 hn7 hg8 hz8)
    have hn6:=hn6.grown hg8 (by intro e9;injection e9 with e9;omega)
    have hn3:=hn3.grown hg8 (by intro e9;injection e9 with e9;omega)
    have hown:=hown.grown hg8 hb70
    have hB:=hB.grown hg8 hB.size (fun k9 hk9=>by cases hk9;omega)
    clear hg8 hz8
    obtain⟨q,hq⟩:∃q,pickI k 8=q:=⟨_,rfl⟩
    have HPK:=Lib.hid (show ∀W,Calls Tryz.prog 24 #[.int .i64 k,.int .i64 8] W (fun e w'=>e= .returned (.int .i64 q)∧w'=W)from fun W=>by rw[←hq];exact pick_any k 8 W HZ.out.k.1 HZ.out.k.2 (by decide) (by decide))
    have hqb:=pickI_bd k (n:=8) (by decide)
    rw[hq]at hqb
    clear hq
    obtain⟨a,t,rfl⟩:∃a t,l=a :: t:=by
     cases l with
     |nil=>exact absurd rfl (arr_ne HRT.out)
     |cons a t=>exact⟨a,t,rfl⟩
    obtain⟨g,cp,rfl,hBg,hgl⟩:=own_form hown (Nat.succ_pos _)
    have hown:World.ownsRow w8 B0 34 12 (.slice (some ⟨g,0,none⟩) (t.length+1) cp) (t.length+1) (vsC (a :: t)):=hown
    have hbg:b7<g:=by omega
    have HQ8:Hid (i64R q):=Lib.hid (by unfold i64R;omega)
    have H8:Hid (CX[8]? =some (.slice (some ⟨g,0,none⟩) (t.length+1) cp)):=Lib.hid (by rw[←hCX];rfl)
    have HBI:=Lib.hid (build_inner q)
    refine wp_region_held_drew (S:=(fun w9=>World.vb w9 b7 CX∧World.blk w9 b3 25 (rawC k m e s b))) (by kernel_rfl) ⟨hn7,hn3⟩ (fun hHeld=> ?_)
    have hBd:=World.drew_below w8
    have hown:World.ownsRow w8.drew B0 34 12 (.slice (some ⟨g,0,none⟩) (t.length+1) cp) (t.length+1) (vsC (a :: t)):=hown
    have hgl:g<w8.drew.heap.size:=hgl
    generalize w8.drew=W9 at hBd hHeld hown hgl⊢
    have hn7:=hn7.below hBd hn7.lt
    have hn6:=hn6.below hBd hn6.lt
    have hn3:=hn3.below hBd hn3.lt
    have hB:=hB.trans (hBd.mono hB.size)
    clear hBd
    refine tk 0 ⟨some 63,_,_,_,_,_⟩ ?_ hHeld ?_ ?_
    rotate_left
    ·(intro w9 hSw;(try dsimp only at hSw);go_simp)
     all_goals with_reducible rfl
    try simp only[Act.put,pk1,pk2,pk3]
    refine tk 1 ⟨some 64,_,_,_,_,_⟩ ?_ hHeld ?_ ?_
    rotate_left
    ·(intro w9 hSw;have d8:=hSw.1.cell H8.out;clear hSw;go_simp)
     all_goals with_reducible rfl
    try simp only[Act.put,pk1,pk2,pk3]
    refine tk 2 ⟨some 65,_,_,_,_,_⟩ ?_ hHeld ?_ ?_
    rotate_left
    ·(intro w9 hSw;(try dsimp only at hSw);go_simp)
     all_goals with_reducible rfl
    try simp only[Act.put,pk1,pk2,pk3]
    refine tk 3 ⟨some 66,_,_,_,_,_⟩ ?_ hHeld ?_ ?_
    rotate_left
    ·(intro w9 hSw;have d0:=hSw.2.cell (j:=0) rfl;clear hSw;go_simp)
     all_goals with_reducible rfl
    try simp only[Act.put,pk1,pk2,pk3]
    refine tk 5 ⟨some 68,_,_,_,_,_⟩ ?_ hHeld ?_ ?_
    rotate_left
    ·(intro w9 hSw;(try dsimp only at hSw);go_simp)
     all_goals with_reducible rfl
    try simp only[Act.put,pk1,pk2,pk3]
    refine wpAnyH_ready (rs:= [4,6]) (by kernel_rfl) (by simp) ?_
    refine(AllReadyH.cons (o:=⟨some 67,_,_,_,_,_⟩) rfl (fun KK hK=> ?_) (AllReadyH.cons (o:=⟨some 69,_,_,_,_,_⟩) rfl (fun KK hK=> ?_) AllReadyH.nil))
    ·(try rw[if_pos (by rfl)])
     go_simp
     refine(HPK.out _).mono ?_
     rintro e10 W9 ⟨rfl,rfl⟩
     refine hK.out _ _ ⟨hn7,hn3⟩ ?_
     clear hK KK hHeld
     intro hHeld
     try simp only[Act.put,pk1,pk2,pk3]
     refine wpAnyH_ready (rs:= [6]) (by kernel_rfl) (by simp) ?_
     refine(AllReadyH.cons (o:=⟨some 69,_,_,_,_,_⟩) rfl (fun KK hK=> ?_) AllReadyH.nil)
     ·(try rw[if_pos (by rfl)])
      obtain⟨g8,hg8⟩:∃g,g=W9.heap.size:=⟨_,rfl⟩
      refine op_bslice34 (y:= {}) rfl (by rfl) ?_
      obtain⟨W10,hW10⟩:∃W10,W10=W9.alloc (.cells (pcs {}) 34):=⟨_,rfl⟩
      rw[←hg8,←hW10]
      have hk8:World.vb W10 g8 (pcs {}):=by rw[hW10,hg8];exact World.vb_new _ _
      have hlt8:g<g8:=by rw[hg8];exact hgl
      have hn7:World.vb W10 b7 CX:=by rw[hW10];exact hn7.alloc _
      have hn6:World.vb W10 b6 vz:=by rw[hW10];exact hn6.alloc _
      have hn3:World.blk W10 b3 25 (rawC k m e s b):=by rw[hW10];exact hn3.alloc _
      have hown:World.ownsRow W10 B0 34 12 (.slice (some ⟨g,0,none⟩) (t.length+1) cp) (t.length+1) (vsC (a :: t)):=by rw[hW10];exact World.ownsRow.alloc hown _
      have hB:Below w.heap.size w W10:=by rw[hW10];exact hB.alloc hB.size _
      clear hgl hg8 hW10
      refine hK.out _ _ ⟨hn7,hn3⟩ ?_
      clear hK KK hHeld
      intro hHeld
      try simp only[Act.put,pk1,pk2,pk3]
      refine tk 7 ⟨some 70,_,_,_,_,_⟩ ?_ hHeld ?_ ?_
      rotate_left
      ·(intro w9 hSw;go_simp;(try simp only[HBI.out]);with_reducible rfl)
      try simp only[Act.put,pk1,pk2,pk3]
      refine tk 8 ⟨some 71,_,_,_,_,_⟩ ?_ hHeld ?_ ?_
      rotate_left
      ·(intro w9 hSw;(try dsimp only at hSw);go_simp)
       all_goals with_reducible rfl
      try simp only[Act.put,pk1,pk2,pk3]
      refine wpAnyH_ready (rs:= [9]) (by kernel_rfl) (by simp) ?_
      refine(AllReadyH.cons (o:=⟨none,_,_,_,_,_⟩) rfl (fun KK hK=> ?_) AllReadyH.nil)
      ·(try rw[if_pos (by rfl)])
       refine op_store_head (ops:= #[]) (C:=vcs {k:=q,rows:=1,cols:=1} (.slice (some ⟨g8,0,none⟩) 1 1) nilS nilS) (Nat.le_add_left 1 t.length) hown (vcs_one _ _ _ _ _ _ _ _ _ _) rfl (by rfl) (by rfl) ?_
       intro W11 hown hg11 hz11
       have hk8:=hk8.grown hg11 (by intro e9;injection e9 with e9;omega)
       have hn7:=hn7.grown hg11 (by intro e9;injection e9 with e9;omega)
       have hn6:=hn6.grown hg11 (by intro e9;injection e9 with e9;omega)
       have hn3:=hn3.grown hg11 (by intro e9;injection e9 with e9;omega)
       have hB:=hB.grown hg11 hB.size (fun k9 hk9=>by cases hk9;omega)
       clear hg11 hz11
       refine hK.out _ _ ⟨hn7,hn3⟩ ?_
       clear hK KK hHeld
       intro hHeld
       try simp only[Act.put,pk1,pk2,pk3]
       refine wpAnyH_done (by kernel_rfl) ?_ _
       try simp only[Act.put,pk1,pk2,pk3]
       rw[←hCX]at hn7
       clear HPK HBI HZ HSZ HR HPN HBO hSE hMS hM
       go_wp2_with (first|refine wpList_load34 rfl rfl rfl hn7 rfl ?_|(refine wpList_store34 rfl rfl rfl rfl hn6 (by rfl) (vcs_one _ _ _ _ _ _ _ _ _ _) ?_;intro w9 hn9 hg9 hz9))
       have hk8:=hk8.grown hg9 (by intro e9;injection e9 with e9;omega)
       have hown:=World.ownsRow.kept hown hg9 (by right;intro e9;injection e9 with e9;have:g=b6:=e9;omega)
       refine bodyPost_ret (results_cell_row rfl _ _ _ 34 _ (0,0) _ rfl hn9 Tryz.underlying34 rfl info34) rfl ?_
       have hd:=right_arr.1 HRT.out
       refine⟨arrV R Q ({k:=q,rows:=1,cols:=1,l:= [{}]} :: t),_,rfl,rp_arr2 (y:= {k:=q,rows:=1,cols:=1,l:= [{}]}) (by rw[show (vsC (a :: t)).drop 12=vsC t from rfl]at hown;exact hown) (vcs_one _ _ _ _ _ _ _ _ _ _) (rp_inner HQ8.out hk8) (fun x hx=>hd.2 x (List.mem_cons_of_mem _ hx)) ?_ ?_ ?_,hB.grown hg9 hB.size (fun k9 hk9=>by cases hk9;omega)⟩
       ·have:=hd.1
        simp at this
        omega
       ·unfold i64R;omega
       ·unfold i64R;omega
    ·(try rw[if_pos (by rfl)])
     obtain⟨g8,hg8⟩:∃g,g=W9.heap.size:=⟨_,rfl⟩
     refine op_bslice34 (y:= {}) rfl (by rfl) ?_
     obtain⟨W10,hW10⟩:∃W10,W10=W9.alloc (.cells (pcs {}) 34):=⟨_,rfl⟩
     rw[←hg8,←hW10]
     have hk8:World.vb W10 g8 (pcs {}):=by rw[hW10,hg8];exact World.vb_new _ _
     have hlt8:g<g8:=by rw[hg8];exact hgl
     have hn7:World.vb W10 b7 CX:=by rw[hW10];exact hn7.alloc _
     have hn6:World.vb W10 b6 vz:=by rw[hW10];exact hn6.alloc _
     have hn3:World.blk W10 b3 25 (rawC k m e s b):=by rw[hW10];exact hn3.alloc _
     have hown:World.ownsRow W10 B0 34 12 (.slice (some ⟨g,0,none⟩) (t.length+1) cp) (t.length+1) (vsC (a :: t)):=by rw[hW10];exact World.ownsRow.alloc hown _
     have hB:Below w.heap.size w W10:=by rw[hW10];exact hB.alloc hB.size _
     clear hgl hg8 hW10
     refine hK.out _ _ ⟨hn7,hn3⟩ ?_
     clear hK KK hHeld
     intro hHeld
     try simp only[Act.put,pk1,pk2,pk3]
     refine wpAnyH_ready (rs:= [4]) (by kernel_rfl) (by simp) ?_
     refine(AllReadyH.cons (o:=⟨some 67,_,_,_,_,_⟩) rfl (fun KK hK=> ?_) AllReadyH.nil)
     ·(try rw[if_pos (by rfl)])
      go_simp
      refine(HPK.out _).mono ?_
      rintro e10 W9 ⟨rfl,rfl⟩
      refine hK.out _ _ ⟨hn7,hn3⟩ ?_
      clear hK KK hHeld
      intro hHeld
      try simp only[Act.put,pk1,pk2,pk3]
      refine tk 7 ⟨some 70,_,_,_,_,_⟩ ?_ hHeld ?_ ?_
      rotate_left
      ·(intro w9 hSw;go_simp;(try simp only[HBI.out]);with_reducible rfl)
      try simp only[Act.put,pk1,pk2,pk3]
      refine tk 8 ⟨some 71,_,_,_,_,_⟩ ?_ hHeld ?_ ?_
      rotate_left
      ·(intro w9 hSw;(try dsimp only at hSw);go_simp)
       all_goals with_reducible rfl
      try simp only[Act.put,pk1,pk2,pk3]
      refine wpAnyH_ready (rs:= [9]) (by kernel_rfl) (by simp) ?_
      refine(AllReadyH.cons (o:=⟨none,_,_,_,_,_⟩) rfl (fun KK hK=> ?_) AllReadyH.nil)
      ·(try rw[if_pos (by rfl)])
       refine op_store_head (ops:= #[]) (C:=vcs {k:=q,rows:=1,cols:=1} (.slice (some ⟨g8,0,none⟩) 1 1) nilS nilS) (Nat.le_add_left 1 t.length) hown (vcs_one _ _ _ _ _ _ _ _ _ _) rfl (by rfl) (by rfl) ?_
       intro W11 hown hg11 hz11
       have hk8:=hk8.grown hg11 (by intro e9;injection e9 with e9;omega)
       have hn7:=hn7.grown hg11 (by intro e9;injection e9 with e9;omega)
       have hn6:=hn6.grown hg11 (by intro e9;injection e9 with e9;omega)
       have hn3:=hn3.grown hg11 (by intro e9;injection e9 with e9;omega)
       have hB:=hB.grown hg11 hB.size (fun k9 hk9=>by cases hk9;omega)
       clear hg11 hz11
       refine hK.out _ _ ⟨hn7,hn3⟩ ?_
       clear hK KK hHeld
       intro hHeld
       try simp only[Act.put,pk1,pk2,pk3]
       refine wpAnyH_done (by kernel_rfl) ?_ _
       try simp only[Act.put,pk1,pk2,pk3]
       rw[←hCX]at hn7
       clear HPK HBI HZ HSZ HR HPN HBO hSE hMS hM
       go_wp2_with (first|refine wpList_load34 rfl rfl rfl hn7 rfl ?_|(refine wpList_store34 rfl rfl rfl rfl hn6 (by rfl) (vcs_one _ _ _ _ _ _ _ _ _ _) ?_;intro w9 hn9 hg9 hz9))
       have hk8:=hk8.grown hg9 (by intro e9;injection e9 with e9;omega)
       have hown:=World.ownsRow.kept hown hg9 (by right;intro e9;injection e9 with e9;have:g=b6:=e9;omega)
       refine bodyPost_ret (results_cell_row rfl _ _ _ 34 _ (0,0) _ rfl hn9 Tryz.underlying34 rfl info34) rfl ?_
       have hd:=right_arr.1 HRT.out
       refine⟨arrV R Q ({k:=q,rows:=1,cols:=1,l:= [{}]} :: t),_,rfl,rp_arr2 (y:= {k:=q,rows:=1,cols:=1,l:= [{}]}) (by rw[show (vsC (a :: t)).drop 12=vsC t from rfl]at hown;exact hown) (vcs_one _ _ _ _ _ _ _ _ _ _) (rp_inner HQ8.out hk8) (fun x hx=>hd.2 x (List.mem_cons_of_mem _ hx)) ?_ ?_ ?_,hB.grown hg9 hB.size (fun k9 hk9=>by cases hk9;omega)⟩
       ·have:=hd.1
        simp at this
        omega
       ·unfold i64R;omega
       ·unfold i64R;omega
   ·clear hpp
    obtain⟨qa,hqa⟩:∃q,pickI m 3=q:=⟨_,rfl⟩
    obtain⟨q2,hqb,hq2⟩:∃q:Nat,pickI e 3=(q:Int)∧q≤2:=by have:=pickI_bd e (n:=3) (by decide);exact⟨(pickI e 3).toNat,by omega,by omega⟩
    obtain⟨q3,hqc,hq3⟩:∃q:Nat,pickI k 3=(q:Int)∧q≤2:=by have:=pickI_bd k (n:=3) (by decide);exact⟨(pickI k 3).toNat,by omega,by omega⟩
    have HPA:=Lib.hid (show ∀W,Calls Tryz.prog 24 #[.int .i64 m,.int .i64 3] W (fun e w'=>e= .returned (.int .i64 qa)∧w'=W)from fun W=>by rw[←hqa];exact pick_any m 3 W HZ.out.m.1 HZ.out.m.2 (by decide) (by decide))
    have HPB:=Lib.hid (show ∀W,Calls Tryz.prog 24 #[.int .i64 e,.int .i64 3] W (fun e w'=>e= .returned (.int .i64 (q2:Int))∧w'=W)from fun W=>by rw[←hqb];exact pick_any e 3 W HZ.out.e.1 HZ.out.e.2 (by decide) (by decide))
    have HPC:=Lib.hid (show ∀W,Calls Tryz.prog 24 #[.int .i64 k,.int .i64 3] W (fun e w'=>e= .returned (.int .i64 (q3:Int))∧w'=W)from fun W=>by rw[←hqc];exact pick_any k 3 W HZ.out.k.1 HZ.out.k.2 (by decide) (by decide))
    have HQA:Hid (i64R qa):=Lib.hid (by rw[←hqa];have:=pickI_bd m (n:=3) (by decide);unfold i64R;omega)
    have hPs:=pure_size s
    have HPU0:∀W,Calls Tryz.prog 32 #[.string s] W (fun e w'=>e= .returned (.string (pureS s))∧w'=W):=fun W=>pure_any s W HZ.out.s
    obtain⟨P,hP⟩:∃P,pureS s=P:=⟨_,rfl⟩
    rw[hP]at hPs HPU0
    have HPU:=Lib.hid HPU0
    have HPS:=Lib.hid hPs
    have HBF:=Lib.hid (build_fn qa P)
    clear hqa hqb hqc hP hPs HPU0
    go_wp2_with fail
    refine(HPN.out _).mono ?_
    rintro e4 w4 ⟨rfl,rfl⟩
    go_upto_region 14 with fail
    refine wp_region_held_drew (S:=(fun w9=>World.blk w9 b3 25 (rawC k m e s b))) (by kernel_rfl) hn3 (fun hHeld=> ?_)
    have hBd:=World.drew_below w4
    generalize w4.drew=W9 at hBd hHeld⊢
    have hn7:=hn7.below hBd hn7.lt
    have hn6:=hn6.below hBd hn6.lt
    have hn3:=hn3.below hBd hn3.lt
    have hB:=hB.trans (hBd.mono hB.size)
    clear hBd
    refine tk 0 ⟨some 74,_,_,_,_,_⟩ ?_ hHeld ?_ ?_
    rotate_left
    ·(intro w9 hSw;(try dsimp only at hSw);go_simp)
     all_goals with_reducible rfl
    try simp only[Act.put,pk1,pk2,pk3]
    refine tk 1 ⟨some 75,_,_,_,_,_⟩ ?_ hHeld ?_ ?_
    rotate_left
    ·(intro w9 hSw;(try dsimp only at hSw);go_simp)
     all_goals with_reducible rfl
    try simp only[Act.put,pk1,pk2,pk3]
    refine tk 2 ⟨some 76,_,_,_,_,_⟩ ?_ hHeld ?_ ?_
    rotate_left
    ·(intro w9 hSw;have d0:=hSw.cell (j:=0) rfl;have d1:=hSw.cell (j:=1) rfl;have d2:=hSw.cell (j:=2) rfl;have d3:=hSw.cell (j:=3) rfl;clear hSw;go_simp)
     all_goals with_reducible rfl
    try simp only[Act.put,pk1,pk2,pk3]
    refine tk 4 ⟨some 78,_,_,_,_,_⟩ ?_ hHeld ?_ ?_
    rotate_left
    ·(intro w9 hSw;(try dsimp only at hSw);go_simp)
     all_goals with_reducible rfl
    try simp only[Act.put,pk1,pk2,pk3]
    refine tk 5 ⟨some 79,_,_,_,_,_⟩ ?_ hHeld ?_ ?_
    rotate_left
    ·(intro w9 hSw;have d0:=hSw.cell (j:=0) rfl;have d1:=hSw.cell (j:=1) rfl;have d2:=hSw.cell (j:=2) rfl;have d3:=hSw.cell (j:=3) rfl;clear hSw;go_simp)
     all_goals with_reducible rfl
    try simp only[Act.put,pk1,pk2,pk3]
    refine tk 7 ⟨some 81,_,_,_,_,_⟩ ?_ hHeld ?_ ?_
    rotate_left
    ·(intro w9 hSw;(try dsimp only at hSw);go_simp)
     all_goals with_reducible rfl
    try simp only[Act.put,pk1,pk2,pk3]
    refine tk 8 ⟨some 82,_,_,_,_,_⟩ ?_ hHeld ?_ ?_
    rotate_left
    ·(intro w9 hSw;(try dsimp only at hSw);go_simp)
     all_goals with_reducible rfl
    try simp only[Act.put,pk1,pk2,pk3]
    refine tk 9 ⟨some 83,_,_,_,_,_⟩ ?_ hHeld ?_ ?_
    rotate_left
    ·(intro w9 hSw;have d0:=hSw.cell (j:=0) rfl;have d1:=hSw.cell (j:=1) rfl;have d2:=hSw.cell (j:=2) rfl;have d3:=hSw.cell (j:=3) rfl;clear hSw;go_simp)
     all_goals with_reducible rfl
    try simp only[Act.put,pk1,pk2,pk3]
    refine tk 12 ⟨some 86,_,_,_,_,_⟩ ?_ hHeld ?_ ?_
    rotate_left
    ·(intro w9 hSw;(try dsimp only at hSw);go_simp)
     all_goals with_reducible rfl
    try simp only[Act.put,pk1,pk2,pk3]
    refine tk 13 ⟨some 87,_,_,_,_,_⟩ ?_ hHeld ?_ ?_
    rotate_left
    ·(intro w9 hSw;have d0:=hSw.cell (j:=0) rfl;have d1:=hSw.cell (j:=1) rfl;have d2:=hSw.cell (j:=2) rfl;have d3:=hSw.cell (j:=3) rfl;clear hSw;go_simp)
     all_goals with_reducible rfl
    try simp only[Act.put,pk1,pk2,pk3]
    refine wpAnyH_ready (rs:= [3]) (by kernel_rfl) (by simp) ?_
    refine(AllReadyH.cons (o:=⟨some 77,_,_,_,_,_⟩) rfl (fun KK hK=> ?_) AllReadyH.nil)
    ·(try rw[if_pos (by rfl)])
     go_simp
     refine(HPA.out _).mono ?_
     rintro e10 W9 ⟨rfl,rfl⟩
     refine hK.out _ _ hn3 ?_
     clear hK KK hHeld
     intro hHeld
     try simp only[Act.put,pk1,pk2,pk3]
     refine wpAnyH_ready (rs:= [6]) (by kernel_rfl) (by simp) ?_
     refine(AllReadyH.cons (o:=⟨some 80,_,_,_,_,_⟩) rfl (fun KK hK=> ?_) AllReadyH.nil)
     ·(try rw[if_pos (by rfl)])
      go_simp
      refine(HPU.out _).mono ?_
      rintro e10 W9 ⟨rfl,rfl⟩
      refine hK.out _ _ hn3 ?_
      clear hK KK hHeld
      intro hHeld
      try simp only[Act.put,pk1,pk2,pk3]
      refine wpAnyH_ready (rs:= [10]) (by kernel_rfl) (by simp) ?_
      refine(AllReadyH.cons (o:=⟨some 84,_,_,_,_,_⟩) rfl (fun KK hK=> ?_) AllReadyH.nil)
      ·(try rw[if_pos (by rfl)])
       go_simp
       refine(HPB.out _).mono ?_
       rintro e10 W9 ⟨rfl,rfl⟩
       refine hK.out _ _ hn3 ?_
       clear hK KK hHeld
       intro hHeld
       try simp only[Act.put,pk1,pk2,pk3]
       refine wpAnyH_ready (rs:= [11,14]) (by kernel_rfl) (by simp) ?_
       refine(AllReadyH.cons (o:=⟨some 85,_,_,_,_,_⟩) rfl (fun KK hK=> ?_) (AllReadyH.cons (o:=⟨some 88,_,_,_,_,_⟩) rfl (fun KK hK=> ?_) AllReadyH.nil))
       ·(try rw[if_pos (by rfl)])
        obtain⟨g1,hg1⟩:∃g,g=W9.heap.size:=⟨_,rfl⟩
        refine op_mk29 (ops:= #[]) (q:=q2) hq2 rfl rfl rfl ?_
        rw[←hg1]
        have hltg1:b7<g1:=by rw[hg1];exact hn7.lt
        intro W9 hkg1 hB10 hz10
        rw[hg1]at hB10
        have hn7:=hn7.below hB10 hn7.lt
        have hn6:=hn6.below hB10 hn6.lt
        have hn3:=hn3.below hB10 hn3.lt
        have hB:=hB.trans (hB10.mono hB.size)
        clear hB10 hz10 hg1
        refine hK.out _ _ hn3 ?_
        clear hK KK hHeld
        intro hHeld
        try simp only[Act.put,pk1,pk2,pk3]
        refine wpAnyH_ready (rs:= [14]) (by kernel_rfl) (by simp) ?_
        refine(AllReadyH.cons (o:=⟨some 88,_,_,_,_,_⟩) rfl (fun KK hK=> ?_) AllReadyH.nil)
        ·(try rw[if_pos (by rfl)])
         go_simp
         refine(HPC.out _).mono ?_
         rintro e10 W9 ⟨rfl,rfl⟩
         refine hK.out _ _ hn3 ?_
         clear hK KK hHeld
         intro hHeld
         try simp only[Act.put,pk1,pk2,pk3]
         refine wpAnyH_ready (rs:= [15]) (by kernel_rfl) (by simp) ?_
         refine(AllReadyH.cons (o:=⟨some 89,_,_,_,_,_⟩) rfl (fun KK hK=> ?_) AllReadyH.nil)
         ·(try rw[if_pos (by rfl)])
          obtain⟨g2,hg2⟩:∃g,g=W9.heap.size:=⟨_,rfl⟩
          refine op_mk30 (ops:= #[]) (q:=q3) hq3 rfl rfl rfl ?_
          rw[←hg2]
          have hltg2:b7<g2:=by rw[hg2];exact hn7.lt
          intro W9 hkg2 hB10 hz10
          rw[hg2]at hB10
          have hn7:=hn7.below hB10 hn7.lt
          have hn6:=hn6.below hB10 hn6.lt
          have hn3:=hn3.below hB10 hn3.lt
          have hkg1:=hkg1.below hB10 hkg1.lt
          have hB:=hB.trans (hB10.mono hB.size)
          clear hB10 hz10 hg2
          refine hK.out _ _ hn3 ?_
          clear hK KK hHeld
          intro hHeld
          try simp only[Act.put,pk1,pk2,pk3]
          refine tk 16 ⟨some 90,_,_,_,_,_⟩ ?_ hHeld ?_ ?_
          rotate_left
          ·(intro w9 hSw;(try dsimp only at hSw);go_simp)
           all_goals with_reducible rfl
          try simp only[Act.put,pk1,pk2,pk3]
          refine tk 17 ⟨some 91,_,_,_,_,_⟩ ?_ hHeld ?_ ?_
          rotate_left
          ·(intro w9 hSw;go_simp;(try simp only[HBF.out]);with_reducible rfl)
          try simp only[Act.put,pk1,pk2,pk3]
          refine wpAnyH_ready (rs:= [18]) (by kernel_rfl) (by simp) ?_
          refine(AllReadyH.cons (o:=⟨none,_,_,_,_,_⟩) rfl (fun KK hK=> ?_) AllReadyH.nil)
          ·(try rw[if_pos (by rfl)])
           refine op_store34 (cs':=vcs {k:=6,fn:=qa,s:=P} nilS (.slice (some ⟨g1,0,none⟩) q2 q2) (.slice (some ⟨g2,0,none⟩) q3 q3)) rfl rfl (by rfl) hn7 (by rfl) (vcs_one _ _ _ _ _ _ _ _ _ _) ?_
           intro W11 hn7 hg8 hz8
           have hn6:=hn6.grown hg8 (by intro e9;injection e9 with e9;omega)
           have hn3:=hn3.grown hg8 (by intro e9;injection e9 with e9;omega)
           have hkg1:=hkg1.grown hg8 (by intro e9;injection e9 with e9;omega)
           have hkg2:=hkg2.grown hg8 (by intro e9;injection e9 with e9;omega)
           have hB:=hB.grown hg8 hB.size (fun k9 hk9=>by cases hk9;omega)
           clear hg8 hz8
           refine hK.out _ _ hn3 ?_
           clear hK KK hHeld
           intro hHeld
           try simp only[Act.put,pk1,pk2,pk3]
           refine wpAnyH_done (by kernel_rfl) ?_ _
           try simp only[Act.put,pk1,pk2,pk3]
           clear HPA HPB HPC HPU HBF HZ HSZ HR HPN HBO hSE hMS hM
           go_wp2_with (first|refine wpList_load34 rfl rfl rfl hn7 rfl ?_|(refine wpList_store34 rfl rfl rfl rfl hn6 (by rfl) (vcs_one _ _ _ _ _ _ _ _ _ _) ?_;intro w9 hn9 hg9 hz9))
           have hkg1:=hkg1.grown hg9 (by intro e9;injection e9 with e9;omega)
           have hkg2:=hkg2.grown hg9 (by intro e9;injection e9 with e9;omega)
           refine bodyPost_ret (results_cell_row rfl _ _ _ 34 _ (0,0) _ rfl hn9 Tryz.underlying34 rfl info34) rfl ?_
           exact⟨_,_,rfl,rp_fn HQA.out HPS.out hq2 hq3 hkg1 hkg2,hB.grown hg9 hB.size (fun k9 hk9=>by cases hk9;omega)⟩
       ·(try rw[if_pos (by rfl)])
        go_simp
        refine(HPC.out _).mono ?_
        rintro e10 W9 ⟨rfl,rfl⟩
        refine hK.out _ _ hn3 ?_
        clear hK KK hHeld
        intro hHeld
        try simp only[Act.put,pk1,pk2,pk3]
        refine wpAnyH_ready (rs:= [11,15]) (by kernel_rfl) (by simp) ?_
        refine(AllReadyH.cons (o:=⟨some 85,_,_,_,_,_⟩) rfl (fun KK hK=> ?_) (AllReadyH.cons (o:=⟨some 89,_,_,_,_,_⟩) rfl (fun KK hK=> ?_) AllReadyH.nil))
        ·(try rw[if_pos (by rfl)])
         obtain⟨g1,hg1⟩:∃g,g=W9.heap.size:=⟨_,rfl⟩
         refine op_mk29 (ops:= #[]) (q:=q2) hq2 rfl rfl rfl ?_
         rw[←hg1]
         have hltg1:b7<g1:=by rw[hg1];exact hn7.lt
         intro W9 hkg1 hB10 hz10
         rw[hg1]at hB10
         have hn7:=hn7.below hB10 hn7.lt
         have hn6:=hn6.below hB10 hn6.lt
         have hn3:=hn3.below hB10 hn3.lt
         have hB:=hB.trans (hB10.mono hB.size)
         clear hB10 hz10 hg1
         refine hK.out _ _ hn3 ?_
         clear hK KK hHeld
         intro hHeld
         try simp only[Act.put,pk1,pk2,pk3]
         refine wpAnyH_ready (rs:= [15]) (by kernel_rfl) (by simp) ?_
         refine(AllReadyH.cons (o:=⟨some 89,_,_,_,_,_⟩) rfl (fun KK hK=> ?_) AllReadyH.nil)
         ·(try rw[if_pos (by rfl)])
          obtain⟨g2,hg2⟩:∃g,g=W9.heap.size:=⟨_,rfl⟩
          refine op_mk30 (ops:= #[]) (q:=q3) hq3 rfl rfl rfl ?_
          rw[←hg2]
          have hltg2:b7<g2:=by rw[hg2];exact hn7.lt
          intro W9 hkg2 hB10 hz10
          rw[hg2]at hB10
          have hn7:=hn7.below hB10 hn7.lt
          have hn6:=hn6.below hB10 hn6.lt
          have hn3:=hn3.below hB10 hn3.lt
          have hkg1:=hkg1.below hB10 hkg1.lt
          have hB:=hB.trans (hB10.mono hB.size)
          clear hB10 hz10 hg2
          refine hK.out _ _ hn3 ?_
          clear hK KK hHeld
          intro hHeld
          try simp only[Act.put,pk1,pk2,pk3]
          refine tk 16 ⟨some 90,_,_,_,_,_⟩ ?_ hHeld ?_ ?_
          rotate_left
          ·(intro w9 hSw;(try dsimp only at hSw);go_simp)
           all_goals with_reducible rfl
          try simp only[Act.put,pk1,pk2,pk3]
          refine tk 17 ⟨some 91,_,_,_,_,_⟩ ?_ hHeld ?_ ?_
          rotate_left
          ·(intro w9 hSw;go_simp;(try simp only[HBF.out]);with_reducible rfl)
          try simp only[Act.put,pk1,pk2,pk3]
          refine wpAnyH_ready (rs:= [18]) (by kernel_rfl) (by simp) ?_
          refine(AllReadyH.cons (o:=⟨none,_,_,_,_,_⟩) rfl (fun KK hK=> ?_) AllReadyH.nil)
          ·(try rw[if_pos (by rfl)])
           refine op_store34 (cs':=vcs {k:=6,fn:=qa,s:=P} nilS (.slice (some ⟨g1,0,none⟩) q2 q2) (.slice (some ⟨g2,0,none⟩) q3 q3)) rfl rfl (by rfl) hn7 (by rfl) (vcs_one _ _ _ _ _ _ _ _ _ _) ?_
           intro W11 hn7 hg8 hz8
           have hn6:=hn6.grown hg8 (by intro e9;injection e9 with e9;omega)
           have hn3:=hn3.grown hg8 (by intro e9;injection e9 with e9;omega)
           have hkg1:=hkg1.grown hg8 (by intro e9;injection e9 with e9;omega)
           have hkg2:=hkg2.grown hg8 (by intro e9;injection e9 with e9;omega)
           have hB:=hB.grown hg8 hB.size (fun k9 hk9=>by cases hk9;omega)
           clear hg8 hz8
           refine hK.out _ _ hn3 ?_
           clear hK KK hHeld
           intro hHeld
           try simp only[Act.put,pk1,pk2,pk3]
           refine wpAnyH_done (by kernel_rfl) ?_ _
           try simp only[Act.put,pk1,pk2,pk3]
           clear HPA HPB HPC HPU HBF HZ HSZ HR HPN HBO hSE hMS hM
           go_wp2_with (first|refine wpList_load34 rfl rfl rfl hn7 rfl ?_|(refine wpList_store34 rfl rfl rfl rfl hn6 (by rfl) (vcs_one _ _ _ _ _ _ _ _ _ _) ?_;intro w9 hn9 hg9 hz9))
           have hkg1:=hkg1.grown hg9 (by intro e9;injection e9 with e9;omega)
           have hkg2:=hkg2.grown hg9 (by intro e9;injection e9 with e9;omega)
           refine bodyPost_ret (results_cell_row rfl _ _ _ 34 _ (0,0) _ rfl hn9 Tryz.underlying34 rfl info34) rfl ?_
           exact⟨_,_,rfl,rp_fn HQA.out HPS.out hq2 hq3 hkg1 hkg2,hB.grown hg9 hB.size (fun k9 hk9=>by cases hk9;omega)⟩
        ·(try rw[if_pos (by rfl)])
         obtain⟨g2,hg2⟩:∃g,g=W9.heap.size:=⟨_,rfl⟩
         refine op_mk30 (ops:= #[]) (q:=q3) hq3 rfl rfl rfl ?_
         rw[←hg2]
         have hltg2:b7<g2:=by rw[hg2];exact hn7.lt
         intro W9 hkg2 hB10 hz10
         rw[hg2]at hB10
         have hn7:=hn7.below hB10 hn7.lt
         have hn6:=hn6.below hB10 hn6.lt
         have hn3:=hn3.below hB10 hn3.lt
         have hB:=hB.trans (hB10.mono hB.size)
         clear hB10 hz10 hg2
         refine hK.out _ _ hn3 ?_
         clear hK KK hHeld
         intro hHeld
         try simp only[Act.put,pk1,pk2,pk3]
         refine wpAnyH_ready (rs:= [11]) (by kernel_rfl) (by simp) ?_
         refine(AllReadyH.cons (o:=⟨some 85,_,_,_,_,_⟩) rfl (fun KK hK=> ?_) AllReadyH.nil)
         ·(try rw[if_pos (by rfl)])
          obtain⟨g1,hg1⟩:∃g,g=W9.heap.size:=⟨_,rfl⟩
          refine op_mk29 (ops:= #[]) (q:=q2) hq2 rfl rfl rfl ?_
          rw[←hg1]
          have hltg1:b7<g1:=by rw[hg1];exact hn7.lt
          intro W9 hkg1 hB10 hz10
          rw[hg1]at hB10
          have hn7:=hn7.below hB10 hn7.lt
          have hn6:=hn6.below hB10 hn6.lt
          have hn3:=hn3.below hB10 hn3.lt
          have hkg2:=hkg2.below hB10 hkg2.lt
          have hB:=hB.trans (hB10.mono hB.size)
          clear hB10 hz10 hg1
          refine hK.out _ _ hn3 ?_
          clear hK KK hHeld
          intro hHeld
          try simp only[Act.put,pk1,pk2,pk3]
          refine tk 16 ⟨some 90,_,_,_,_,_⟩ ?_ hHeld ?_ ?_
          rotate_left
          ·(intro w9 hSw;(try dsimp only at hSw);go_simp)
           all_goals with_reducible rfl
          try simp only[Act.put,pk1,pk2,pk3]
          refine tk 17 ⟨some 91,_,_,_,_,_⟩ ?_ hHeld ?_ ?_
          rotate_left
          ·(intro w9 hSw;go_simp;(try simp only[HBF.out]);with_reducible rfl)
          try simp only[Act.put,pk1,pk2,pk3]
          refine wpAnyH_ready (rs:= [18]) (by kernel_rfl) (by simp) ?_
          refine(AllReadyH.cons (o:=⟨none,_,_,_,_,_⟩) rfl (fun KK hK=> ?_) AllReadyH.nil)
          ·(try rw[if_pos (by rfl)])
           refine op_store34 (cs':=vcs {k:=6,fn:=qa,s:=P} nilS (.slice (some ⟨g1,0,none⟩) q2 q2) (.slice (some ⟨g2,0,none⟩) q3 q3)) rfl rfl (by rfl) hn7 (by rfl) (vcs_one _ _ _ _ _ _ _ _ _ _) ?_
           intro W11 hn7 hg8 hz8
           have hn6:=hn6.grown hg8 (by intro e9;injection e9 with e9;omega)
           have hn3:=hn3.grown hg8 (by intro e9;injection e9 with e9;omega)
           have hkg1:=hkg1.grown hg8 (by intro e9;injection e9 with e9;omega)
           have hkg2:=hkg2.grown hg8 (by intro e9;injection e9 with e9;omega)
           have hB:=hB.grown hg8 hB.size (fun k9 hk9=>by cases hk9;omega)
           clear hg8 hz8
           refine hK.out _ _ hn3 ?_
           clear hK KK hHeld
           intro hHeld
           try simp only[Act.put,pk1,pk2,pk3]
           refine wpAnyH_done (by kernel_rfl) ?_ _
           try simp only[Act.put,pk1,pk2,pk3]
           clear HPA HPB HPC HPU HBF HZ HSZ HR HPN HBO hSE hMS hM
           go_wp2_with (first|refine wpList_load34 rfl rfl rfl hn7 rfl ?_|(refine wpList_store34 rfl rfl rfl rfl hn6 (by rfl) (vcs_one _ _ _ _ _ _ _ _ _ _) ?_;intro w9 hn9 hg9 hz9))
           have hkg1:=hkg1.grown hg9 (by intro e9;injection e9 with e9;omega)
           have hkg2:=hkg2.grown hg9 (by intro e9;injection e9 with e9;omega)
           refine bodyPost_ret (results_cell_row rfl _ _ _ 34 _ (0,0) _ rfl hn9 Tryz.underlying34 rfl info34) rfl ?_
           exact⟨_,_,rfl,rp_fn HQA.out HPS.out hq2 hq3 hkg1 hkg2,hB.grown hg9 hB.size (fun k9 hk9=>by cases hk9;omega)⟩
   ·clear hpp
    go_wp2_with fail
    refine(HPN.out _).mono ?_
    rintro e4 w4 ⟨rfl,rfl⟩
    have hRP:=Lib.hid (show ∀W,Rp W W.heap.size 3 (numV (m,e)) (.agg (pcs (numV (m,e))))from fun W=>rp_bare (ok_num HZ.out.m HZ.out.e) rfl rfl rfl)
    clear HZ HSZ HR HPN HBO hSE hMS hM
    go_wp2_with (first|refine wpList_load34 rfl rfl rfl hn7 rfl ?_|refine wpList_build_err rfl rfl (by rfl) ?_|refine wpList_build_num rfl rfl (by rfl) ?_|refine wpList_load23at (g:=b3) (off:=1) (cs:= #[.int .i64 m,.int .i64 e]) rfl rfl rfl rfl (blk_dec hn3) ?_|(refine wpList_store34 rfl rfl rfl rfl hn7 (by rfl) (pcs_one _) ?_;intro w8 hn7 hg8 hz8;have hn6:=hn6.grown hg8 (by intro e9;injection e9 with e9;omega);have hB:=hB.grown hg8 hB.size (fun k9 hk9=>by cases hk9;omega);clear hg8 hz8)|(refine wpList_store34 rfl rfl rfl rfl hn6 (by rfl) (pcs_one _) ?_;intro w9 hn9 hg9 hz9))
    refine bodyPost_ret (results_cell_row rfl _ _ _ 34 _ (0,0) _ rfl hn9 Tryz.underlying34 rfl info34) rfl ?_
    exact⟨_,_,rfl,hRP.out _,hB.grown hg9 hB.size (fun k9 hk9=>by cases hk9;omega)⟩
   ·clear hpp
    go_wp2_with fail
    refine(HPN.out _).mono ?_
    rintro e4 w4 ⟨rfl,rfl⟩
    have hRP:=Lib.hid (show ∀W,Rp W W.heap.size 3 {k:=k,m:=m,e:=e,s:=S,b:=b} (.agg (pcs {k:=k,m:=m,e:=e,s:=S,b:=b}))from fun W=>rp_bare ⟨HZ.out.k,HZ.out.m,HZ.out.e,Nat.le_trans HSZ.out (by decide),i64_zero,i64_zero,i64_zero,i64_zero⟩ rfl rfl rfl)
    clear HZ HSZ HR HPN HBO hSE hMS hM
    go_wp2_with (first|refine wpList_load34 rfl rfl rfl hn7 rfl ?_|(refine wpList_store34 rfl rfl rfl rfl hn6 (by rfl) (pcs_one _) ?_;intro w9 hn9 hg9 hz9))
    refine bodyPost_ret (results_cell_row rfl _ _ _ 34 _ (0,0) _ rfl hn9 Tryz.underlying34 rfl info34) rfl ?_
    exact⟨_,_,rfl,hRP.out _,hB.grown hg9 hB.size (fun k9 hk9=>by cases hk9;omega)⟩
theorem odd14 (z:Rw) (n:Int) (v:Value) (zs:List Rw) (w:World) (hz:RwOk z) (hn0:i64R n) (hr:RawsAt w w.heap.size v zs):Calls Tryz.prog 14 #[.agg z.c,v,.int .i64 n] w (HandsR w):=by
 obtain⟨k,m,e,s,b⟩:=z
 exact odd_all k m e s b n v zs w hz hn0 hr
end Go.Proofs.YtkhohjdakcchdaaGreatDoor
