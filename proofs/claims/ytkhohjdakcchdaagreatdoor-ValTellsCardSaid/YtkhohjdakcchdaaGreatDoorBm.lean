/- Merged: Vsl, Chk. -/
import Derived.Test.YtkhohjdakcchdaaGreatDoorBl
import Derived.Maps.AppendAt
import Derived.RangeFuncNested
import Derived.RangeFuncBound
import Derived.RangeFuncCalls
import Derived.RangeFuncLeaves
import Derived.Shelf.Abstract
import Derived.Shelf.RegionOpen
import Derived.OwnWalkIn
import Derived.TacticsInMore
import Derived.LoopNIn
import Derived.LoopIn
import Derived.WalkMore
import Derived.ControlIn
import Derived.Maps.OwnIn
namespace Go.Proofs.YtkhohjdakcchdaaGreatDoor
open Go Go.RowKit Go.Shelf
/-- The cells of plain values. -/
def vsC (l:List Vl):List Value:=l.flatMap fun x=>(pcs x).toList
theorem vsC_snoc (l:List Vl) (x:Vl):vsC (l++ [x])=vsC l++(pcs x).toList:=by simp[vsC]
theorem vsC_len (l:List Vl):(vsC l).length=l.length*12:=by
 induction l with
 |nil=>rfl
 |cons x l ih=>
  have:vsC (x :: l)=(pcs x).toList++vsC l:=rfl
  rw[this,List.length_append,ih,List.length_cons,Nat.add_mul]
  show 12+_=_
  omega
theorem vsC_at (l:List Vl) (i j:Nat) {x:Vl} {u:Value} (hx:l[i]? =some x) (hj:(pcs x)[j]? =some u):(vsC l)[i*12+j]? =some u:=by
 have hj12:j<12:=(Array.getElem?_eq_some_iff.1 hj).1
 induction l generalizing i with
 |nil=>simp at hx
 |cons y l ih=>
  have e:vsC (y :: l)=(pcs y).toList++vsC l:=rfl
  rw[e]
  cases i with
  |zero=>
   injection hx with hx
   subst hx
   rw[Nat.zero_mul,Nat.zero_add,List.getElem?_append_left (by show j<12;exact hj12)]
   simpa using hj
  |succ i=>
   have h12:(pcs y).toList.length=12:=rfl
   rw[List.getElem?_append_right (by rw[h12];omega),h12,show(i+1)*12+j-12=i*12+j by omega]
   exact ih i (by simpa using hx)
theorem pcs_cell1 (x:Vl):∀u∈(pcs x).toList,u.oneCell'=true:=fun u hu=>Array.all_eq_true_iff_forall_mem.1 (pcs_one x).2 u (by simpa using hu)
theorem vsC_one (l:List Vl):∀u∈vsC l,u.oneCell'=true:=fun u hu=>by
 obtain⟨x,_,h⟩:=List.mem_flatMap.1 hu
 exact pcs_cell1 x u h
/-- v is a slice of the plain values l, in memory of its own, from base on. -/
def World.vr (w:World) (base:Nat) (v:Value) (l:List Vl):Prop:=w.ownsRow base 34 12 v l.length (vsC l)
section
variable {w w' : World} {base : Nat} {v : Value} {l : List Vl}
theorem World.vr.below (h:World.vr w base v l) (hb:Below w.heap.size w w'):World.vr w' base v l:=
 World.ownsRow.kept (row:=none) h ⟨hb.os,hb.tape,hb.output,hb.size,fun k hk _=>hb.block k hk⟩ (by
  cases h:v.ownBlock with
  |none=>exact .inl rfl
  |some k=>exact .inr (by intro e;cases e))
theorem World.vr.grown {g:Nat} (h:World.vr w base v l) (hg:w.grownBy w' (some g)) (hlt:g<base):World.vr w' base v l:=
 World.ownsRow.kept h hg (by
  cases hv:v.ownBlock with
  |none=>exact .inl rfl
  |some k=>
   right
   intro e
   injection e with e
   have:=(World.ownsRow.lt h k hv).1
   omega)
theorem World.vr.grown' {g:Nat} (h:World.vr w base v l) (hg:w.grownBy w' (some g)) (hne:∀k,v.ownBlock=some k→k≠g):World.vr w' base v l:=
 World.ownsRow.kept h hg (by
  cases hv:v.ownBlock with
  |none=>exact .inl rfl
  |some k=>
   right
   intro e
   injection e with e
   exact hne k hv e)
theorem World.vr.alloc (h:World.vr w base v l) (o:Obj):World.vr (w.alloc o) base v l:=World.ownsRow.alloc h o
theorem World.vr.drew (h:World.vr w base v l):World.vr w.drew base v l:=h
theorem World.vr_nil :World.vr w base nilS []:=World.ownsRow_nil _ _ _ _
theorem World.vr.shape (h:World.vr w base v l):∃p c,v= .slice p l.length c:=by
 rcases h.2 with ⟨rfl,e⟩|⟨g,cap,cur,rfl,_⟩
 ·exact⟨none,0,by rw[e]⟩
 ·exact⟨_,_,rfl⟩
theorem World.vr.shape2 (h:World.vr w base v l):∃p n c,v= .slice p n c:=by
 obtain⟨p,c,e⟩:=h.shape
 exact⟨p,_,c,e⟩
theorem rp_plain {B n:Nat} {x:Vl} (h:plainV x=true):Rp w B (n+1) x (.agg (pcs x)):=by
 rcases plain_cases h with e|⟨p,e,hr⟩|⟨s,e,hs⟩|⟨b,e⟩|⟨m,e,h1,h2⟩<;>subst e
 ·exact rp_bare ok_zero rfl rfl rfl
 ·unfold RightP at hr
  exact rp_bare (ok_num (by unfold i64R;omega) (by unfold i64R;omega)) rfl rfl rfl
 ·have:s.size≤200:=by
   unfold txtOk at hs
   simp at hs
   exact hs.1
  exact rp_bare (ok_txt (by omega)) rfl rfl rfl
 ·exact rp_bare (ok_tr b) rfl rfl rfl
 ·exact rp_bare (ok_err (by unfold i64R;omega)) rfl rfl rfl
theorem World.vr.vsAt {B n:Nat} (h:World.vr w base v l) (hp:∀x∈l,plainV x=true) (hl:l.length≤1000) (hB:w.heap.size≤B) (hne:l= []→v=nilS):VsAt (Rp w B (n+1)) w B v l:=by
 rcases h.2 with ⟨rfl,e⟩|⟨g,cap,cur,rfl,hg,hb,h1,h2,h3,h4⟩
 ·have:=List.eq_nil_of_length_eq_zero e
  subst this
  exact VsAt.nil
 ·refine⟨_,cap,rfl,h1,h2,hl,hne,fun i x hi=>⟨g,0,pcs x,rfl,Nat.lt_of_lt_of_le (Array.getElem?_eq_some_iff.1 hb).1 hB,rfl,rp_plain (hp x (List.mem_of_getElem? hi)),fun j u hj=> ?_⟩⟩
  have:=World.ownsRow.cells h (g:=g) rfl (i*12+j) u (vsC_at l i j hi hj)
  rw[add_at]at this
  rw[Nat.add_assoc]
  exact this
end
theorem World.vr.mono {w:World} {base base':Nat} {v:Value} {l:List Vl} (h:World.vr w base v l) (hb:base'≤base):World.vr w base' v l:=by
 refine⟨h.1,?_⟩
 rcases h.2 with h2|⟨g,cap,cur,e,hg,h3⟩
 ·exact .inl h2
 ·exact .inr ⟨g,cap,cur,e,Nat.le_trans hb hg,h3⟩
theorem arr_ne {n:Nat} {r c:Int} {l:List Vl} (h:rightV (n+1) (arrV r c l)=true):l≠ []:=by
 intro e
 subst e
 have hd:=(right_arr.1 h).1
 have:0<r*c:=Int.mul_pos (by omega) (by omega)
 simp at hd
 omega
theorem arr_ok {n:Nat} {r c:Int} {l:List Vl} (h:rightV (n+1) (arrV r c l)=true):VOk (arrV r c l):=by
 have hd:=(right_arr.1 h).1
 refine⟨(show i64R 5 from i64_one (by decide) (by decide)),i64_zero,i64_zero,(show(⟨#[]⟩:ByteArray).size≤1000 by decide),i64_zero,?_,?_,i64_zero⟩
 ·show i64R r
  unfold i64R;omega
 ·show i64R c
  unfold i64R;omega
/-- An array whose values lie in a row of its own. -/
theorem rp_of_vr {w:World} {D B n m:Nat} {r c:Int} {l:List Vl} {L:Value} (h:World.vr w D L l) (hr:rightV (m+1) (arrV r c l)=true) (hB:w.heap.size≤B):Rp w B (n+2) (arrV r c l) (.agg (vcs (arrV r c l) L nilS nilS)):=
 rp_arr (h.vsAt (right_arr.1 hr).2 (by have:=(right_arr.1 hr).1;omega) hB (fun e=>absurd e (arr_ne hr))) (arr_ok hr)
theorem wpList_build_arrC {ops:Array Oper} {rest:List Oper} {o:Oper} {a:Act} {w:World} {Q:Exit→Act→World→Prop} {x y z:Operand} {r c:Int} {L:Value} {Co:Array Value} (hb:∀W,(Instr.build 34 #[(0,.int .i64 5),(5,.int .i64 r),(6,.int .i64 c),(7,L)]).run Tryz.prog W= .ok (.agg Co) W) (hgd:o.guard=none) (ho:o.op= .build 34 #[(0,.const (.int .i64 5)),(5,x),(6,y),(7,z)]) (hx:a.eval x= .int .i64 r) (hy:a.eval y= .int .i64 c) (hz:a.eval z=L)
 (h:wpList Tryz.prog ops Q rest (a.put o.dst (.agg Co)) w):wpList Tryz.prog ops Q (o :: rest) a w:=
 wpList_plain hgd fun K hK=>by
  have he:a.eval (.const (.int .i64 5))= .int .i64 5:=rfl
  unfold Oper.wp execOp
  simp[ho,hx,hy,hz,he,hb w]
  exact hK _ _ h
/-- Such an array is handed back. -/
def HandsA (r c:Int) (l:List Vl) (w:World) (e:Ending) (w':World):Prop:=∃L,e= .returned (.agg (vcs (arrV r c l) L nilS nilS))∧World.vr w' w.heap.size L l∧Below w.heap.size w w'
theorem vr_one {w:World} {D:Nat} {r c:Int} {l:List Vl} {L:Value} (h:World.vr w D L l):OneC (vcs (arrV r c l) L nilS nilS):=by
 obtain⟨p,k,e⟩:=h.shape
 rw[e];exact vcs_one _ _ _ _ _ _ _ _ _ _
theorem info34b :(Tryz.prog.info? 34).map (fun i=>(i.zero,i.size,i.bytes))=some (some (.agg vz),12,152):=by kernel_rfl
theorem bslice_pcs (y:Vl) (w:World):(Instr.buildSlice 28 1 #[(0,.agg (pcs y))]).run Tryz.prog w= .ok (.slice (some ⟨w.heap.size,0,none⟩) 1 1) (w.alloc (.cells (pcs y) 34)):=by kernel_rfl
section
variable {ops : Array Oper} {rest : List Oper} {o : Oper} {a : Act} {w : World} {K : Act → World → Prop} {Q : Exit → Act → World → Prop}
theorem op_bslice34 {x:Operand} {y:Vl} (ho:o.op= .buildSlice 28 1 #[(0,x)]) (hx:a.eval x= .agg (pcs y)) (h:K (a.put o.dst (.slice (some ⟨w.heap.size,0,none⟩) 1 1)) (w.alloc (.cells (pcs y) 34))):o.wp Tryz.prog a w K Q:=by
 have hz:=bslice_pcs y w
 unfold Oper.wp execOp
 simp[ho,hx,hz]
 exact h
theorem op_pushv (s x:Operand) (ho:o.op= .call {callee:= .builtin .append,args:= #[s,x],argTypes:= #[28,28]})
 (base:Nat) (v:Value) (l:List Vl) (y:Vl) (g:Nat) (hown:World.vr w base v l) (hl:l.length≤2000) (hs:a.eval s=v) (hx:a.eval x= .slice (some ⟨g,0,none⟩) 1 1) (hc:World.vb w g (pcs y)) (hbase:base≤w.heap.size)
 (h:∀v' w',World.vr w' base v' (l++ [y])→w.grownBy w' v.ownBlock→K (a.put o.dst v') w'):o.wp Tryz.prog a w K Q:=by
 obtain⟨i0,hi,hz0,hz1,hz2⟩:=info_parts info34b
 refine wp_append_own w s x 28 ho base 34 i0 (.agg vz) 12 152 Tryz.underlying28 hi hz0 hz1 hz2 rfl (by decide) v l.length _ hs hown ⟨g,0,none⟩ 1 1 (pcs y).toList hx rfl ?_ (pcs_cell1 y) ?_ ?_ hbase ?_
 ·intro j u hj
  rw[add_at,Nat.zero_add]
  exact hc.cell (by simpa using hj)
 ·unfold maxLen;omega
 ·omega
 ·intro v' w' h1 h2 _
  refine h v' w' ?_ h2
  unfold World.vr
  rw[vsC_snoc,List.length_append]
  exact h1
theorem yields34 {x:Operand} {g:Nat} {cs:Array Value} (ho:o.op= .load 34 x) (hx:a.eval x= .pointer (some ⟨g,0,none⟩)) (hs:cs.size=12) (hn:World.vb w g cs):(execOp a.eval o).run Tryz.prog w= .ok (.value (.agg cs)) w:=by
 have:=run_loadVar_row (P:=Tryz.prog) w g 34 34 _ (0,0) _ hn Tryz.underlying34 rfl (by rw[hs];exact info34)
 unfold execOp
 simp only[ho,hx,Instr.loadAt,Instr.sureAddr,Sem.run_bind,Sem.run_pure,Result.andThen_ok,this]
end
end Go.Proofs.YtkhohjdakcchdaaGreatDoor
namespace Go.Proofs.YtkhohjdakcchdaaGreatDoor
open Go Go.RowKit Go.Shelf
attribute [local go_sem] Oper.semAt_some
set_option maxHeartbeats 4000000 in
theorem chunk_any (L:Value) (c:Int) (w:World) (p:Option Addr) (n k:Nat) (hL:L= .slice p n k) (hc:1≤c):
 Calls Tryz.prog 112 #[L,.int .i64 c] w fun e w'=>e= .returned (.func (.func 141) #[] #[.pointer (some ⟨w.heap.size,0,none⟩),.pointer (some ⟨w.heap.size+1,0,none⟩)])∧
  w'=(w.alloc (.cells #[L] 28)).alloc (.cells #[.int .i64 c] 3):=by
 subst hL
 have h1:¬c<1:=by omega
 go_enter Tryz.func112,Tryz.ntmps112
 go_wp2
 go_ret
 exact⟨rfl,rfl⟩
/-- A row's number. -/
abbrev Row (R:Nat):= {x:Nat // x<R}
/-- Nothing below D is another, but for the block Bo. -/
def KpC (Bo D:Nat) (W W':World):Prop:=W.heap.size≤W'.heap.size∧∀k,k<D→k≠Bo→W'.heap[k]? =W.heap[k]?
theorem KpC.cell {Bo D:Nat} {W W':World} (h:KpC Bo D W W') {p:Addr} (h1:p.block<D) (h2:p.block≠Bo):W'.cell? p=W.cell? p:=World.cell?_of_block (h.2 _ h1 h2)
theorem KpC.trans {Bo D:Nat} {A B C:World} (h:KpC Bo D A B) (h':KpC Bo D B C):KpC Bo D A C:=⟨Nat.le_trans h.1 h'.1,fun k hk hb=>(h'.2 k hk hb).trans (h.2 k hk hb)⟩
theorem KpC.below {Bo D:Nat} {W W':World} (h:Below D W W'):KpC Bo D W W':=⟨h.size,fun k hk _=>h.block k hk⟩
theorem KpC.refl (Bo D:Nat) (W:World):KpC Bo D W W:=⟨Nat.le_refl _,fun _ _ _=>rfl⟩
def upto (R:Nat):Nat→List (Row R)
 |0=> []
 |k+1=>if h:k<R then upto R k++ [⟨k,h⟩]else upto R k
theorem upto_succ {R k:Nat} (h:k<R):upto R (k+1)=upto R k++ [⟨k,h⟩]:=by rw[upto,dif_pos h]
theorem upto_len {R:Nat}:∀k,k≤R→(upto R k).length=k
 |0,_=>rfl
 |k+1,h=>by rw[upto_succ h,List.length_append,upto_len k (by omega)];rfl
abbrev rowV (g0 off c:Nat) (x:Nat):Value:= .slice (some ⟨g0,off+x*c*12,none⟩) c c
set_option maxRecDepth 100000 in
set_option maxHeartbeats 4000000 in
theorem chunk1_in (l B1 B2 Bo D g0 off c cap R:Nat) (J Jx:List (Row R)→World→Prop)
 (W:World) (hY:∀pre x W1,J pre W1→pre.length<R→YieldAt Fence.wide (3-1) Tryz.prog l #[rowV g0 off c x.1] W1 fun e W'=>
  (e= .returned (.bool true)∧J (pre++ [x]) W'∧KpC Bo D W1 W')∨(e= .returned (.bool false)∧Jx (pre++ [x]) W'))
 (hJ:AbidesFrom W.heap.size J) (h0:J [] W)
 (h1:W.cell? ⟨B1,0,none⟩=some (.slice (some ⟨g0,off,none⟩) (R*c) cap)) (h2:W.cell? ⟨B2,0,none⟩=some (.int .i64 c)) (hB1:B1<D) (hB2:B2<D) (hb1:B1≠Bo) (hb2:B2≠Bo)
 (hc:1≤c) (hRc:R*c≤400) (hcap:R*c≤cap):
 CallsIn Fence.wide 3 Tryz.prog 141 #[.func (.yield l) #[] #[],.pointer (some ⟨B1,0,none⟩),.pointer (some ⟨B2,0,none⟩)] W fun e W'=>(∃v,e= .returned v)∧
  ((∃ys,ys=upto R R∧J ys W')∨(∃pre,True∧Jx pre W')):=by
 refine callsIn_of_wp Tryz.func141 rfl trivial ?_ rfl
 simp only[Tryz.ntmps141,List.size_toArray,List.length_cons,List.length_nil,Nat.reduceAdd,Nat.reduceSub,Array.replicate_succ,Array.replicate_zero,List.push_toArray,List.append_toArray,List.nil_append,List.cons_append]
 gi_wp2
 have hw2:W.cell? ⟨B2,0,none⟩=some (.int .i64 c):=h2
 gi_loopw [4] (fun i wr=>∃K:Nat,i= .int .i64 ((K*c:Nat):Int)∧K≤R∧J (upto R K) wr∧wr.cell? ⟨B1,0,none⟩=some (.slice (some ⟨g0,off,none⟩) (R*c) cap)∧wr.cell? ⟨B2,0,none⟩=some (.int .i64 c))
  (fun i _=>R*c-(intOf i).toNat)
 case atStart=>exact⟨0,by rw[Nat.zero_mul];rfl,Nat.zero_le _,h0,h1,h2⟩
 case round=>
  clear h1 h2 h0 hw2
  obtain⟨K,rfl,hK,hJs,e1,e2⟩:=hrel
  by_cases hlt:K<R
  ·obtain⟨M,hM⟩:∃M,K*c=M:=⟨_,rfl⟩
   obtain⟨T,hT⟩:∃T,R*c=T:=⟨_,rfl⟩
   have hMT:M+c≤T:=by
    rw[←hM,←hT]
    have:=Nat.mul_le_mul_right c (show K+1≤R from hlt)
    rw[Nat.add_mul,Nat.one_mul]at this
    exact this
   have hnx:(K+1)*c=M+c:=by rw[Nat.add_mul,Nat.one_mul,hM]
   have HJ0:=Lib.hid (show J (upto R K) wr from hJs)
   have hlen:(upto R K).length<R:=by rw[upto_len K hK];exact hlt
   rw[hT]at e1
   have hTc:T≤cap:=by omega
   have hT4:T≤400:=by omega
   have k1:(M:Int)<(T:Int):=by omega
   rw[hM]
   have HNX:=Lib.hid hnx
   have n1:M≤T:=by omega
   have n2:c≤T-M:=by omega
   have n3:min c (T-M)=c:=by omega
   have i3:min (c:Int) ((T:Int)-(M:Int))=(c:Int):=by omega
   have i4:min (c:Int) ((T-M:Nat):Int)=(c:Int):=by omega
   have n5:M+c≤cap:=by omega
   have n6:¬cap=M:=by omega
   have HM:=Lib.hid hM
   have HT:=Lib.hid hT
   clear hM hT hMT hnx
   gi_wp2
   refine(wpIn_wide (n:=3)).2 ?_
   go_quiet (fail)
   obtain⟨W5,hW5⟩:∃W5,W5=wr.drewN nq:=⟨_,rfl⟩
   rw[←hW5]
   have hB5:Below wr.heap.size wr W5:=by rw[hW5];exact below_drewN' _
   have hJ5:J (upto R K) W5:=hJ _ _ _ none hJs ⟨hB5.os,hB5.tape,hB5.output,hB5.size,fun k hk _=>hB5.block k hk⟩ (fun r e=>by cases e)
   have f1:W5.cell? ⟨B1,0,none⟩=some (.slice (some ⟨g0,off,none⟩) T cap):=by rw[hW5];exact e1
   have f2:W5.cell? ⟨B2,0,none⟩=some (.int .i64 c):=by rw[hW5];exact e2
   clear hW5 e1 e2 hJs HJ0
   obtain⟨fn,tmps,assign,body,hy,hR⟩:=hY (upto R K) ⟨K,hlt⟩ W5 hJ5 hlen
   dsimp only[rowV]at hy
   rw[HM.out]at hy
   have n7:¬(M+c:Int)>(cap:Int):=by omega
   have n8:M+c-M=c:=by omega
   have n9:((M:Int)+(c:Int)).toNat=M+c:=by omega
   gi_wp2
   refine hR.mono ?_
   rintro e W7 (⟨rfl,hJ7,hB7⟩|⟨rfl,hJx7⟩)
   ·have g1:=(hB7.cell (p:=⟨B1,0,none⟩) hB1 hb1).trans f1
    have g2:=(hB7.cell (p:=⟨B2,0,none⟩) hB2 hb2).trans f2
    gi_wp2
    go_roundw
    case rel=>exact⟨K+1,by rw[HNX.out];go_num,by omega,by rw[upto_succ hlt];exact hJ7,by rw[HT.out];exact g1,g2⟩
    case measure=>
     have h9:=HT.out
     simp[intOf]
     omega
   ·gi_wp2
    refine bodyPost_ret (results_none rfl _ _ _) rfl ?_
    exact⟨⟨_,rfl⟩,.inr ⟨_,trivial,hJx7⟩⟩
  ·obtain rfl:K=R:=by omega
   gi_wp2
   refine bodyPost_end (results_none rfl _ _ _) rfl ?_
   exact⟨⟨_,rfl⟩,.inl ⟨_,rfl,hJs⟩⟩
theorem chunk_stops (B1 B2 Bo D g0 off c cap R:Nat) (w:World) (h1:w.cell? ⟨B1,0,none⟩=some (.slice (some ⟨g0,off,none⟩) (R*c) cap)) (h2:w.cell? ⟨B2,0,none⟩=some (.int .i64 c)) (hB1:B1<D) (hB2:B2<D) (hb1:B1≠Bo) (hb2:B2≠Bo)
 (hc:1≤c) (hRc:R*c≤400) (hcap:R*c≤cap):
 SeqStopsK Fence.wide (4-1) Tryz.prog 141 #[.pointer (some ⟨B1,0,none⟩),.pointer (some ⟨B2,0,none⟩)] (fun x:Row R=> #[rowV g0 off c x.1]) (KpC Bo D) (fun ys=>ys=upto R R) (fun _=>True) R w:=fun l J Jx W hW hJ hJx hY h0=>by
 have l1:B1<w.heap.size:=w.block_lt_of_cell? _ h1
 have l2:B2<w.heap.size:=w.block_lt_of_cell? _ h2
 exact chunk1_in l B1 B2 Bo D g0 off c cap R J Jx W hY hJ h0 ((hW.cell (p:=⟨B1,0,none⟩) l1).trans h1) ((hW.cell (p:=⟨B2,0,none⟩) l2).trans h2) hB1 hB2 hb1 hb2 hc hRc hcap
end Go.Proofs.YtkhohjdakcchdaaGreatDoor
