/- Merged: Rbd, Rqu, Rte, Rtz. -/
import Derived.Test.YtkhohjdakcchdaaGreatDoorBx
import Derived.Test.YtkhohjdakcchdaaGreatDoorRnt
import Derived.Test.YtkhohjdakcchdaaGreatDoorBs
import Derived.Test.YtkhohjdakcchdaaGreatDoorRrv
namespace Go.Proofs.YtkhohjdakcchdaaGreatDoor
open Go
/-- What stands ahead of element i. -/
def sepL (c i:Nat):List UInt8:=if i=0 then []else if i%c=0 then [59]else [44]
def bodyL (c:Nat):Nat→List Vl→List UInt8
 |_,[]=> []
 |i,x :: l=>sepL c i++cellL x++bodyL c (i+1) l
theorem body_app (c i:Nat) (l m:List Vl):bodyL c i (l++m)=bodyL c i l++bodyL c (i+l.length) m:=by
 induction l generalizing i with
 |nil=>simp[bodyL]
 |cons x l ih=>simp only[List.cons_append,bodyL,ih (i+1),List.length_cons,List.append_assoc];rw[show i+1+l.length=i+(l.length+1) by omega]
theorem body_take {c K:Nat} {l:List Vl} {x:Vl} (h:l[K]? =some x):bodyL c 0 (l.take (K+1))=bodyL c 0 (l.take K)++sepL c K++cellL x:=by
 have hl:=(List.getElem?_eq_some_iff.1 h).1
 rw[List.take_add_one,h,Option.toList_some,body_app,List.length_take,Nat.zero_add,show min K l.length=K by omega]
 simp[bodyL]
/-- Within a row: each behind a comma. -/
theorem body_in (c i j:Nat) (l:List Vl) (hi:i%c=0) (hj:1≤j) (hl:j+l.length≤c):bodyL c (i+j) l=Lib.joinTail [44] (l.map cellL):=by
 induction l generalizing j with
 |nil=>rfl
 |cons x l ih=>
  rw[List.length_cons]at hl
  have h1:=ih (j+1) (by omega) (by omega)
  rw[bodyL,show i+j+1=i+(j+1) by omega,h1]
  have hs:sepL c (i+j)= [44]:=by
   unfold sepL
   rw[if_neg (by omega),if_neg]
   rw[Nat.add_mod,hi,Nat.zero_add,Nat.mod_mod,Nat.mod_eq_of_lt (by omega)]
   omega
  rw[hs]
  simp[Lib.joinTail]
/-- One row. -/
theorem body_row (c i:Nat) (l:List Vl) (hi:i%c=0) (hl:l.length≤c) (hne:l≠ []):bodyL c i l=sepL c i++Lib.join (l.map cellL) [44]:=by
 cases l with
 |nil=>exact absurd rfl hne
 |cons x l=>
  rw[List.length_cons]at hl
  rw[bodyL,body_in c i 1 l hi (Nat.le_refl _) (by omega),List.map_cons,Lib.join_cons,List.append_assoc]
theorem body_rows (c:Nat) (hc:1≤c):∀(n i:Nat) (l:List Vl),l.length≤n→i%c=0→bodyL c i l=if i=0 then Lib.join (rowsF n c l) [59]else Lib.joinTail [59] (rowsF n c l)
 |0,i,l,hn,_=>by
  have:l= []:=List.length_eq_zero_iff.1 (by omega)
  subst this
  split<;>rfl
 |n+1,i,l,hn,hi=>by
  by_cases hl:l= []
  ·subst hl
   rw[rowsF,if_pos rfl]
   split<;>rfl
  ·have hpos:0<l.length:=List.length_pos_iff.2 hl
   have ih:=body_rows c hc n (i+c) (l.drop c) (by rw[List.length_drop];omega) (by rw[Nat.add_mod_right];exact hi)
   rw[if_neg (by omega)]at ih
   have hsplit:bodyL c i l=bodyL c i (l.take c)++bodyL c (i+c) (l.drop c):=by
    have h:=body_app c i (l.take c) (l.drop c)
    rw[List.take_append_drop]at h
    rw[h]
    congr 1
    by_cases hlc:c≤l.length
    ·rw[List.length_take,show min c l.length=c by omega]
    ·rw[List.drop_of_length_le (by omega)];rfl
   rw[hsplit,ih,body_row c i (l.take c) hi (by rw[List.length_take];omega) (by
    intro e
    have:=congrArg List.length e
    rw[List.length_take,List.length_nil]at this
    omega),rowsF,if_neg hl]
   unfold sepL
   by_cases h0:i=0
   ·rw[if_pos h0,if_pos h0,Lib.join_cons,List.nil_append]
   ·rw[if_neg h0,if_pos hi,if_neg h0]
    simp[Lib.joinTail]
/-- The text of an array. -/
theorem arr_body {r c:Int} {l:List Vl} (hc:1≤c):arrL (arrV r c l)=123 :: (bodyL c.toNat 0 l++ [125]):=by
 have:=body_rows c.toNat (by omega) l.length 0 l (Nat.le_refl _) (Nat.zero_mod _)
 rw[if_pos rfl]at this
 rw[this]
 rfl
theorem cell_len {x:Vl} (h:plainV x=true):(cellL x).length≤500:=by
 unfold cellL
 split
 ·rename_i hk
  have:=plain_two h hk
  have hs:=txt_small this.2
  unfold quotL
  have hq:∀m:List UInt8,(m.flatMap fun c=>if c=34 then [34,34]else [c]).length≤2*m.length:=by
   intro m
   induction m with
   |nil=>simp
   |cons c m ih=>
    simp only[List.flatMap_cons,List.length_append,List.length_cons]
    have:(if c=34 then [34,34]else [c]).length≤2:=by split<;>simp
    omega
  have:=hq x.s.data.toList
  rw[←Lib.size_eq]at this
  simp only[List.length_cons,List.length_append,List.length_nil]
  omega
 ·rename_i hk
  have:=textV_len h
  have e:(textV 2 x).1=writL x:=by
   unfold textV
   rw[if_pos (right_of_plain 1 h),if_neg (plain_kind h).2,if_neg hk,if_neg (plain_kind h).1]
  rw[e,mk_size]at this
  omega
theorem body_len (c i:Nat) (l:List Vl) (h:∀x∈l,plainV x=true):(bodyL c i l).length≤501*l.length:=by
 induction l generalizing i with
 |nil=>simp[bodyL]
 |cons x l ih=>
  have h1:=ih (i+1) (fun y hy=>h y (List.mem_cons_of_mem _ hy))
  have h2:=cell_len (h x List.mem_cons_self)
  have h3:(sepL c i).length≤1:=by unfold sepL;(repeat' split)<;>simp
  simp only[bodyL,List.length_append,List.length_cons]
  omega
end Go.Proofs.YtkhohjdakcchdaaGreatDoor
namespace Go.Proofs.YtkhohjdakcchdaaGreatDoor
open Go Go.RowKit Go.Shelf
def byteV (c:UInt8):Value:= .int .u8 (c.toNat:Int)
/-- v is a slice of the bytes l, in memory of its own, from base on. -/
def World.br (w:World) (base:Nat) (v:Value) (l:List UInt8):Prop:=w.ownsRow base 5 1 v l.length (l.map byteV)
theorem info5b :(Tryz.prog.info? 5).map (fun i=>(i.zero,i.size,i.bytes))=some (some (.int .u8 0),1,1):=by kernel_rfl
theorem bsliceb (c:Int) (w:World):(Instr.buildSlice 103 1 #[(0,.int .u8 c)]).run Tryz.prog w= .ok (.slice (some ⟨w.heap.size,0,none⟩) 1 1) (w.alloc (.cells #[.int .u8 c] 5)):=by kernel_rfl
section
variable {ops : Array Oper} {rest : List Oper} {o : Oper} {a : Act} {w : World} {K : Act → World → Prop} {Q : Exit → Act → World → Prop}
theorem wpList_bsliceb {x:Operand} {c:Int} (hgd:o.guard=none) (ho:o.op= .buildSlice 103 1 #[(0,x)]) (hx:a.eval x= .int .u8 c) (h:wpList Tryz.prog ops Q rest (a.put o.dst (.slice (some ⟨w.heap.size,0,none⟩) 1 1)) (w.alloc (.cells #[.int .u8 c] 5))):wpList Tryz.prog ops Q (o :: rest) a w:=
 wpList_plain hgd fun _ hK=>by
  have hz:=bsliceb c w
  unfold Oper.wp execOp
  simp[ho,hx,hz]
  exact hK _ _ h
theorem wpList_pushb (hgd:o.guard=none) (s x:Operand) (ho:o.op= .call {callee:= .builtin .append,args:= #[s,x],argTypes:= #[103,103]})
 (base:Nat) (v:Value) (l:List UInt8) (c:UInt8) (g:Nat) (hown:World.br w base v l) (hl:l.length≤4000) (hs:a.eval s=v) (hx:a.eval x= .slice (some ⟨g,0,none⟩) 1 1) (hc:w.cell? ⟨g,0,none⟩=some (byteV c)) (hbase:base≤w.heap.size)
 (h:∀v' w',World.br w' base v' (l++ [c])→w.grownBy w' v.ownBlock→wpList Tryz.prog ops Q rest (a.put o.dst v') w'):wpList Tryz.prog ops Q (o :: rest) a w:=
 wpList_plain hgd fun _ hK=>by
  obtain⟨i0,hi,hz0,hz1,hz2⟩:=info_parts info5b
  refine wp_append_own w s x 103 ho base 5 i0 (.int .u8 0) 1 1 Tryz.underlying103 hi hz0 hz1 hz2 rfl (by decide) v l.length _ hs hown ⟨g,0,none⟩ 1 1 [byteV c] hx rfl ?_ ?_ ?_ ?_ hbase ?_
  ·intro j u hj
   rw[add_at,Nat.zero_add]
   cases j with
   |zero=>simp at hj;subst hj;exact hc
   |succ j=>simp at hj
  ·intro u hu
   simp at hu
   subst hu
   rfl
  ·unfold maxLen;omega
  ·omega
  ·intro v' w' h1 h2 _
   refine hK _ _ (h v' w' ?_ h2)
   unfold World.br
   rw[List.length_append,List.map_append]
   exact h1
end
theorem br_new (w:World) (c:UInt8) (base:Nat) (hb:base≤w.heap.size):World.br (w.alloc (.cells #[byteV c] 5)) base (.slice (some ⟨w.heap.size,0,none⟩) 1 1) [c]:=
 ⟨rfl,.inr ⟨w.heap.size,1,#[byteV c],rfl,hb,heap_alloc_new w _,Nat.le_refl _,by unfold maxLen;omega,rfl,rfl⟩⟩
theorem byte_new (w:World) (c:UInt8):(w.alloc (.cells #[byteV c] 5)).cell? ⟨w.heap.size,0,none⟩=some (byteV c):=by
 rw[cell_of_row _ _ 0 _ _ _ (heap_alloc_new w _)];rfl
theorem br_back {w:World} {base:Nat} {v:Value} {l:List UInt8} (h:World.br w base v l) (hne:l≠ []):(convert 103 9 v).run Tryz.prog w= .ok (.string (mk l)) w:=by
 rcases h.2 with ⟨_,h0⟩|⟨g,cap,cur,rfl,_⟩
 ·exact absurd (List.length_eq_zero_iff.1 h0) hne
 ·have hc:=World.ownsRow.cells h (g:=g) rfl
  have:=run_convert_bytes_back (P:=Tryz.prog) w 103 9 5 ⟨g,0,none⟩ cap l Tryz.underlying103 Tryz.underlying5 Tryz.underlying9 (fun j hj=>hc j _ (by rw[List.getElem?_map,List.getElem?_eq_getElem hj];rfl))
  exact this
theorem br_below {w w':World} {base:Nat} {v:Value} {l:List UInt8} (h:World.br w base v l) (hb:Below w.heap.size w w'):World.br w' base v l:=h.imp id fun h=>by
 rcases h with h|⟨g,cap,cur,e,h1,h2,h3⟩
 ·exact .inl h
 ·exact .inr ⟨g,cap,cur,e,h1,by rw[hb.block g (Array.getElem?_eq_some_iff.1 h2).1];exact h2,h3⟩
theorem byte_at' (s:ByteArray) {K:Nat} (h:K<s.size):s.data.toList[K]? =some (s[K]'h):=by
 rw[List.getElem?_eq_getElem (by simpa using h)]
 rfl
theorem ret_s9 {a b:ByteArray} (h:a=b):Ending.returned (.string a)= .returned (.string b):=by rw[h]
def qB (c:UInt8):List UInt8:=if c=34 then [34,34]else [c]
theorem acc_step {l:List UInt8} {K:Nat} {c:UInt8} (h:l[K]? =some c):34 :: (l.take (K+1)).flatMap qB=(34 :: (l.take K).flatMap qB)++qB c:=by
 rw[List.take_add_one,h];simp
theorem acc_len (l:List UInt8) (K:Nat):(34 :: (l.take K).flatMap qB).length≤1+2*K:=by
 have:∀m:List UInt8,(m.flatMap qB).length≤2*m.length:=by
  intro m
  induction m with
  |nil=>simp
  |cons c m ih=>
   have hc:(qB c).length≤2:=by unfold qB;split<;>simp
   simp only[List.flatMap_cons,List.length_append,List.length_cons]
   omega
 have h2:=this (l.take K)
 have h3:(l.take K).length≤K:=by rw[List.length_take];omega
 simp only[List.length_cons]
 omega
set_option maxRecDepth 100000 in
set_option maxHeartbeats 8000000 in
theorem rquoted_any (s:ByteArray) (w:World) (hs:s.size≤1000):Calls Tryz.prog 92 #[.string s] w (Gives (.string (mk (quotL s.data.toList))) w):=by
 have HN0:=br_new w 34 w.heap.size (Nat.le_refl _)
 have HB0:Below w.heap.size w (w.alloc (.cells #[byteV 34] 5)):=(Below.refl _ w).alloc (Nat.le_refl _) _
 have HQ:Hid (quotL s.data.toList=(34 :: (s.data.toList.take s.size).flatMap qB)++ [34]):=Lib.hid (by
  rw[List.take_of_length_le (by rw[←Lib.size_eq];exact Nat.le_refl _)]
  rfl)
 obtain⟨R,hR⟩:∃R,quotL s.data.toList=R:=⟨_,rfl⟩
 rw[hR]at HQ⊢
 clear hR
 go_enter Tryz.func92,Tryz.ntmps92
 go_wp2_with (refine wpList_bsliceb (c:=34) rfl rfl rfl ?_)
 go_loopw [4,3] (fun i sv wr=>∃K:Nat,K≤s.size∧i= .int .i64 (K:Int)∧Below w.heap.size w wr∧World.br wr w.heap.size sv (34 :: (s.data.toList.take K).flatMap qB)) (fun i _ _=>s.size-(intOf i).toNat)
 case atStart=>exact⟨0,Nat.zero_le _,rfl,HB0,by rw[List.take_zero];exact HN0⟩
 case round=>
  clear HN0 HB0
  obtain⟨K,hK,rfl,hB,hown⟩:=hrel
  have hwr:=hB.size
  by_cases hlt:K<s.size
  ·have hKI:(K:Int)<(s.size:Int):=by omega
   have HST:=Lib.hid (acc_step (byte_at' s hlt))
   have HLEN:=Lib.hid (acc_len s.data.toList K)
   have hc256:=UInt8.toNat_lt (s[K]'hlt)
   obtain⟨A,hA⟩:∃A,34 :: (s.data.toList.take K).flatMap qB=A:=⟨_,rfl⟩
   rw[hA]at hown HST HLEN
   obtain⟨c,hc⟩:∃c,s[K]'hlt=c:=⟨_,rfl⟩
   rw[hc]at HST hc256
   have HL4:Hid (A.length≤2001):=Lib.hid (by have:=HLEN.out;omega)
   by_cases h34:c=34
   ·have f0:(((s[K]'hlt).toNat:Int)==34)=true:=by rw[hc,h34];rfl
    have HS2:Hid (34 :: (s.data.toList.take (K+1)).flatMap qB=A++ [34]++ [34]):=Lib.hid (by rw[HST.out,h34];simp[qB])
    have HS:=Lib.hid (show ∀k,Value.ownBlock u3=some k→w.heap.size≤k∧k<wr.heap.size from fun k hk=>World.ownsRow.lt hown k hk)
    go_wp2_with (first|(refine wpList_bsliceb (c:=34) rfl rfl rfl ?_)|(at_builtin;refine wpList_pushb rfl _ _ rfl w.heap.size u3 A 34 wr.heap.size (br_below hown ((Below.refl _ wr).alloc (Nat.le_refl _) _)) (by have:=HL4.out;omega) rfl rfl (byte_new wr 34) (by simp;omega) ?_;intro v1 w1 hown1 hg1;have hz1:=hg1.size;rw[World.size_alloc]at hz1)|(at_builtin;refine wpList_pushb rfl _ _ rfl w.heap.size v1 (A++ [34]) 34 w1.heap.size (br_below hown1 ((Below.refl _ w1).alloc (Nat.le_refl _) _)) (by have:=HL4.out;rw[List.length_append];simp;omega) rfl rfl (byte_new w1 34) (by simp;omega) ?_;intro v2 w2 hown2 hg2))
    have HS1:∀k,Value.ownBlock v1=some k→w.heap.size≤k:=fun k hk=>(World.ownsRow.lt hown1 k hk).1
    have hB1:=(hB.alloc hwr (.cells #[byteV 34] 5)).grown hg1 (by simp;omega) (fun k9 hk9=>(HS.out k9 hk9).1)
    have hB2:=(hB1.alloc (by omega) (.cells #[byteV 34] 5)).grown hg2 (by simp;omega) HS1
    rw[←HS2.out]at hown2
    clear hg1 hg2 hown1 HS1 hB1 hown hA hc f0 HST HS2
    go_roundw
    case rel=>exact⟨K+1,by omega,by go_num,hB2,hown2⟩
    case measure=>simp[intOf];omega
   ·have f0:((c.toNat:Int)==34)=false:=by
     rw[beq_eq_false_iff_ne]
     intro e
     apply h34
     apply UInt8.toNat_inj.1
     have:(34:UInt8).toNat=34:=rfl
     omega
    have HS2:Hid (34 :: (s.data.toList.take (K+1)).flatMap qB=A++ [c]):=Lib.hid (by rw[HST.out];simp[qB,h34])
    have HS:=Lib.hid (show ∀k,Value.ownBlock u3=some k→w.heap.size≤k∧k<wr.heap.size from fun k hk=>World.ownsRow.lt hown k hk)
    clear h34 HST
    go_wp2_with (first|(refine wpList_bsliceb (c:=(c.toNat:Int)) rfl rfl rfl ?_)|(at_builtin;refine wpList_pushb rfl _ _ rfl w.heap.size u3 A c wr.heap.size (br_below hown ((Below.refl _ wr).alloc (Nat.le_refl _) _)) (by have:=HL4.out;omega) rfl rfl (byte_new wr c) (by simp;omega) ?_;intro v1 w1 hown1 hg1))
    have hB1:=(hB.alloc hwr (.cells #[byteV c] 5)).grown hg1 (by simp;omega) (fun k9 hk9=>(HS.out k9 hk9).1)
    rw[←HS2.out]at hown1
    clear hg1 hown hA hc f0 HS2
    go_roundw
    case rel=>exact⟨K+1,by omega,by go_num,hB1,hown1⟩
    case measure=>simp[intOf];omega
  ·obtain rfl:K=s.size:=by omega
   have hKI:¬((s.size:Nat):Int)<(s.size:Int):=by omega
   have HLEN:=acc_len s.data.toList s.size
   obtain⟨A,hA⟩:∃A,34 :: (s.data.toList.take s.size).flatMap qB=A:=⟨_,rfl⟩
   rw[hA]at hown HLEN HQ
   have HL4:Hid (A.length≤2001):=Lib.hid (by omega)
   have HS:=Lib.hid (show ∀k,Value.ownBlock u3=some k→w.heap.size≤k∧k<wr.heap.size from fun k hk=>World.ownsRow.lt hown k hk)
   clear hA HLEN
   go_wp2_with (first|(refine wpList_bsliceb (c:=34) rfl rfl rfl ?_)|(at_builtin;refine wpList_pushb rfl _ _ rfl w.heap.size u3 A 34 wr.heap.size (br_below hown ((Below.refl _ wr).alloc (Nat.le_refl _) _)) (by have:=HL4.out;omega) rfl rfl (byte_new wr 34) (by simp;omega) ?_;intro v1 w1 hown1 hg1;have hbk:=br_back hown1 (by simp)))
   have hB1:=(hB.alloc hwr (.cells #[byteV 34] 5)).grown hg1 (by simp;omega) (fun k9 hk9=>(HS.out k9 hk9).1)
   go_ret
   exact⟨ret_s9 (by rw[HQ.out]),hB1⟩
end Go.Proofs.YtkhohjdakcchdaaGreatDoor
namespace Go.Proofs.YtkhohjdakcchdaaGreatDoor
open Go Go.RowKit Go.Shelf
theorem field_str (x:Vl) (w:World):(Instr.field 34 (.agg (pcs x)) 2).run Tryz.prog w= .ok (.string x.s) w:=by kernel_rfl
set_option maxRecDepth 100000 in
set_option maxHeartbeats 4000000 in
theorem rwrit_any (x:Vl) (w:World) (hp:plainV x=true) (hk:x.k≠2):Calls Tryz.prog 91 #[.agg (pcs x)] w (Gives (.string (mk (writL x))) w):=by
 have HT:=Lib.hid (fun W=>rtold_any x W hp)
 have hO:=pcs_one x
 obtain⟨C,hC⟩:∃C,pcs x=C:=⟨_,rfl⟩
 have X0:Hid (C[0]? =some (.int .i64 x.k)):=Lib.hid (by rw[←hC];rfl)
 have X5:Hid (C[5]? =some (.int .i64 x.err)):=Lib.hid (by rw[←hC];rfl)
 have HO:Hid (OneC C):=Lib.hid (by rw[←hC];exact hO)
 rw[hC]at HT⊢
 clear hC hO
 have hvx:=World.vb_new w C
 have hB:=(Below.refl _ w).alloc (Nat.le_refl _) (.cells C 34)
 have x0:=X0.out
 have x5:=X5.out
 by_cases h4:x.k=4
 ·have he:∃n:Nat,x.err=(n:Int)∧1≤n∧n≤9:=by
   rcases plain_cases hp with e|⟨p,e,hr⟩|⟨s,e,hs⟩|⟨b,e⟩|⟨n,e,hn⟩<;>subst e
   ·cases h4
   ·cases h4
   ·cases h4
   ·cases h4
   ·exact⟨n.toNat,by show n=_;omega,by omega,by omega⟩
  obtain⟨n,he,h1,h9⟩:=he
  have HN:Hid (mk (writL x)=mk (errL n)):=Lib.hid (by
   unfold writL
   rw[if_neg (by omega),if_neg (by omega),if_pos h4,he]
   rfl)
  rw[h4]at x0
  rw[he]at x5
  clear h4 he hp hk
  rw[HN.out]
  go_enter Tryz.func91,Tryz.ntmps91
  go_wp2_with fail
  refine(rname_any n _ h1 h9).mono ?_
  rintro e1 w1 ⟨rfl,rfl⟩
  go_wp2_with fail
  go_ret
  exact⟨rfl,hB⟩
 ·have f4:(x.k==4)=false:=by simpa using h4
  have HN:Hid ((txtT x).s=mk (writL x)):=Lib.hid (by
   rcases plain_cases hp with e|⟨p,e,hr⟩|⟨s,e,hs⟩|⟨b,e⟩|⟨n,e,hn⟩<;>subst e
   ·rfl
   ·rfl
   ·exact absurd rfl hk
   ·cases b<;>rfl
   ·exact absurd rfl h4)
  generalize x.k=k at*
  generalize txtT x=y at HT HN
  have hfs:=field_str y
  rw[HN.out]at hfs
  generalize mk (writL x)=S at*
  clear hp hk h4 HN
  go_enter Tryz.func91,Tryz.ntmps91
  go_wp2_with (refine wpList_load34 rfl rfl rfl hvx HO.out.1 ?_)
  refine(HT.out _).mono ?_
  rintro e1 w1 ⟨rfl,hB1⟩
  have hB:=hB.trans (hB1.mono hB.size)
  clear hB1 hvx
  go_wp2_with fail
  go_ret
  exact⟨rfl,hB⟩
set_option maxRecDepth 100000 in
set_option maxHeartbeats 4000000 in
/-- Of a plain one that is no text. -/
theorem rtext_writ (x:Vl) (w:World) (hp:plainV x=true) (hk:x.k≠2):Calls Tryz.prog 37 #[.agg (pcs x)] w (WritPost (mk (writL x)) 0 w):=by
 have HR:=Lib.hid (show ∀W,Below w.heap.size w W→Calls Tryz.prog 38 #[.agg (pcs x)] W (Gives (.bool true) W)from fun W hW=>by
  have:=rright38_any 1 x _ W (rp_plain hp)
  rw[right_of_plain 0 hp]at this
  exact this)
 have HW:=Lib.hid (rwrit_any x · hp hk)
 have hO:=pcs_one x
 have h5:=(plain_kind hp).1
 have h6:=(plain_kind hp).2
 obtain⟨C,hC⟩:∃C,pcs x=C:=⟨_,rfl⟩
 have x0:C[0]? =some (.int .i64 x.k):=by rw[←hC];rfl
 rw[hC]at HR HW hO⊢
 have HO:=Lib.hid hO
 have X0:=Lib.hid x0
 obtain⟨S,hS⟩:∃S,mk (writL x)=S:=⟨_,rfl⟩
 rw[hS]at HW⊢
 clear hC hO hp x0 hS
 generalize x.k=k at X0 h5 h6 hk
 have f6:(k==6)=false:=by simpa using h6
 have f5:(k != 5)=true:=by simpa using h5
 have f2:(k==2)=false:=by simpa using hk
 clear h5 h6 hk
 go_enter Tryz.func37,Tryz.ntmps37
 go_wp2_with (refine wpList_load34 rfl rfl rfl (World.vb_new w C) HO.out.1 ?_)
 have hvx:=World.vb_new w C
 have hB:=(Below.refl _ w).alloc (Nat.le_refl _) (.cells C 34)
 refine(HR.out _ hB).mono ?_
 rintro e2 w2 ⟨rfl,hB2⟩
 have hvx:=hvx.below hB2 (by simp)
 have hB:=hB.trans (hB2.mono (by simp))
 clear hB2
 have c0:=hvx.cell X0.out
 go_wp2_with (refine wpList_load34 rfl rfl rfl hvx HO.out.1 ?_)
 refine(HW.out _).mono ?_
 rintro e3 w3 ⟨rfl,hB3⟩
 have hB:=hB.trans (hB3.mono hB.size)
 clear hB3 c0 hvx
 go_wp2_with fail
 go_ret2
 exact⟨rfl,hB⟩
set_option maxRecDepth 100000 in
set_option maxHeartbeats 4000000 in
/-- Of a text. -/
theorem rtext_txt (s:ByteArray) (w:World) (hp:txtOk s=true):Calls Tryz.prog 37 #[.agg (pcs (txtV s))] w (WritPost (mk (textV 2 (txtV s)).1) 0 w):=by
 have hpl:=plain_txt hp
 have hsz:=txt_small hp
 have HR:=Lib.hid (show ∀W,Below w.heap.size w W→Calls Tryz.prog 38 #[.agg (pcs (txtV s))] W (Gives (.bool true) W)from fun W hW=>by
  have:=rright38_any 1 _ _ W (rp_plain hpl)
  rw[right_of_plain 0 hpl]at this
  exact this)
 obtain⟨X,er,hr⟩:∃X er,readV s.data.toList=(X,er):=⟨_,_,rfl⟩
 have HRd:=Lib.hid (show ∀W,Below w.heap.size w W→Calls Tryz.prog 18 #[.string s] W (ReadPost (X,er) W)from fun W hW=>by rw[←hr];exact rvread_any s W (by omega))
 have hXp:er=0→plainV X=true:=fun e=>by
  rcases readV_two s.data.toList with ⟨_,h⟩|h
  ·rw[hr]at h;exact h
  ·rw[hr]at h
   injection h with _ h
   rw[e]at h;exact absurd h (by decide)
 have hX0:∀W B,Rp W B 1 X (.agg (pcs X)):=fun W B=>by
  rcases readV_two s.data.toList with ⟨_,h⟩|h
  ·rw[hr]at h;exact rp_plain h
  ·rw[hr]at h
   injection h with h _
   rw[h];exact rp_plain plain_zero
 have HSm:=Lib.hid (show ∀W,Calls Tryz.prog 21 #[.agg (pcs X),.agg (pcs (txtV s))] W (Tells (X=txtV s) W)from fun W=>rsame_any 1 X (txtV s) _ _ W (hX0 W _) (rp_plain hpl))
 have HT1:Hid ((er=0∧X=txtV s)→mk (textV 2 (txtV s)).1=s):=Lib.hid fun ⟨h0,hX⟩=>by
  unfold textV
  rw[if_pos (right_of_plain 1 hpl)]
  show mk (if(readV s.data.toList).2=0∧(readV s.data.toList).1.k=2∧(readV s.data.toList).1.s=s then s.data.toList else 39 :: s.data.toList)=s
  rw[hr,if_pos ⟨h0,by rw[hX];rfl,by rw[hX];rfl⟩,mk_self]
 have HT2:Hid (¬(er=0∧X=txtV s)→mk (textV 2 (txtV s)).1=⟨#[39]⟩++s):=Lib.hid fun hn=>by
  unfold textV
  rw[if_pos (right_of_plain 1 hpl)]
  show mk (if(readV s.data.toList).2=0∧(readV s.data.toList).1.k=2∧(readV s.data.toList).1.s=s then s.data.toList else 39 :: s.data.toList)=⟨#[39]⟩++s
  rw[hr,if_neg (fun ⟨h0,h2,h3⟩=>hn ⟨h0,by
   have:=(plain_two (hXp h0) h2).1
   rw[this]
   exact congrArg txtV h3⟩)]
  apply ByteArray.ext
  simp[ByteArray.data_append,mk]
 obtain⟨R,hR⟩:∃R,mk (textV 2 (txtV s)).1=R:=⟨_,rfl⟩
 rw[hR]at HT1 HT2⊢
 have hOX:=pcs_one X
 have hO:=pcs_one (txtV s)
 obtain⟨CX,hCX⟩:∃C,pcs X=C:=⟨_,rfl⟩
 obtain⟨C,hC⟩:∃C,pcs (txtV s)=C:=⟨_,rfl⟩
 have x0:C[0]? =some (.int .i64 2):=by rw[←hC];rfl
 have x3:C[3]? =some (.string s):=by rw[←hC];rfl
 rw[hC]at HR HSm hO⊢
 rw[hCX]at HSm hOX
 have HRd:=Lib.hid (show ∀W,Below w.heap.size w W→Calls Tryz.prog 18 #[.string s] W (fun e w'=>e= .returned (.tuple #[.agg CX,.int .i64 er])∧Below W.heap.size W w')from fun W hW=>by rw[←hCX];exact HRd.out W hW)
 have HO:=Lib.hid hO
 have HOX:=Lib.hid hOX
 have X0:=Lib.hid x0
 have X3:=Lib.hid x3
 clear hCX hC hO hOX x0 x3 hR hX0 hXp hr hpl hp
 go_enter Tryz.func37,Tryz.ntmps37
 go_wp2_with (refine wpList_load34 rfl rfl rfl (World.vb_new w C) HO.out.1 ?_)
 have hvx:=World.vb_new w C
 have hB:=(Below.refl _ w).alloc (Nat.le_refl _) (.cells C 34)
 refine(HR.out _ hB).mono ?_
 rintro e2 w2 ⟨rfl,hB2⟩
 have hvx:=hvx.below hB2 (by simp)
 have hB:=hB.trans (hB2.mono (by simp))
 clear hB2
 have c0:=hvx.cell X0.out
 have c3:=hvx.cell X3.out
 go_wp2_with fail
 refine(HRd.out _ hB).mono ?_
 rintro e3 w3 ⟨rfl,hB3⟩
 have hvx:=hvx.below hB3 hvx.lt
 have hB:=hB.trans (hB3.mono hB.size)
 clear hB3 c0 c3
 have hz3:=hvx.lt
 have x39:(⟨#[39]⟩:ByteArray).size=1:=rfl
 by_cases he:er=0
 ·subst he
  have c3:=hvx.cell X3.out
  go_wp2_with (first|refine wpList_alloc34 rfl rfl ?_|(refine wpList_store34 rfl rfl rfl rfl (World.vb_new w3 vz) (by rfl) HOX.out ?_;intro w4 hn4 hg4 hz4;have hvx:=(hvx.alloc (.cells vz 34)).grown hg4 (by intro e9;injection e9 with e9;omega);have hB:=(hB.alloc hB.size (.cells vz 34)).grown hg4 (by have:=hB.size;simp;omega) (fun k9 hk9=>by cases hk9;exact hB.size);have c3:=hvx.cell X3.out)|refine wpList_load34g rfl rfl rfl hn4 HOX.out.1 ?_|refine wpList_load34g rfl rfl rfl hvx HO.out.1 ?_)
  refine(HSm.out _).mono ?_
  rintro e5 w5 ⟨b,rfl,hb,hB5⟩
  have hvx:=hvx.below hB5 hvx.lt
  have hB:=hB.trans (hB5.mono hB.size)
  have c3:=hvx.cell X3.out
  clear hB5 hn4 hg4 hz4
  cases b with
  |true=>
   have HX:Hid (R=s):=Lib.hid (HT1.out ⟨(by first|rfl|trivial),hb.1 (by first|rfl|trivial)⟩)
   clear hb
   go_wp2_with fail
   go_ret2
   exact⟨by rw[HX.out];rfl,hB⟩
  |false=>
   have HX:Hid (R=⟨#[39]⟩++s):=Lib.hid (HT2.out fun h=>absurd (hb.2 h.2) (by decide))
   clear hb
   go_wp2_with fail
   go_ret2
   exact⟨by rw[HX.out];rfl,hB⟩
 ·have HX:Hid (R=⟨#[39]⟩++s):=Lib.hid (HT2.out fun h=>he h.1)
  have f0:(er==0)=false:=by simpa using he
  have c3:=hvx.cell X3.out
  clear he
  go_wp2_with (first|refine wpList_alloc34 rfl rfl ?_|(refine wpList_store34 rfl rfl rfl rfl (World.vb_new w3 vz) (by rfl) HOX.out ?_;intro w4 hn4 hg4 hz4;have hvx:=(hvx.alloc (.cells vz 34)).grown hg4 (by intro e9;injection e9 with e9;omega);have hB:=(hB.alloc hB.size (.cells vz 34)).grown hg4 (by have:=hB.size;simp;omega) (fun k9 hk9=>by cases hk9;exact hB.size);have c3:=hvx.cell X3.out))
  go_ret2
  exact⟨by rw[HX.out];rfl,hB⟩
theorem mk_cat (l m:List UInt8):mk l++mk m=mk (l++m):=by
 apply ByteArray.ext
 simp[ByteArray.data_append,mk]
set_option maxRecDepth 100000 in
set_option maxHeartbeats 16000000 in
theorem rtext_arr (n:Nat) (r c:Int) (l:List Vl) (v:Value) (w:World) (hv:Rp w w.heap.size (n+2) (arrV r c l) v) (hr:rightV (n+2) (arrV r c l)=true):
 Calls Tryz.prog 37 #[v] w (WritPost (mk (arrL (arrV r c l))) 0 w):=by
 have hdim:=(right_arr.1 hr).1
 have hpl:=(right_arr.1 hr).2
 have HR:=Lib.hid (show ∀W,Below w.heap.size w W→w.heap.size≤W.heap.size→Calls Tryz.prog 38 #[v] W (Gives (.bool true) W)from fun W hW hz=>by
  have:=rright38_any (n+2) _ v W (hv.below hW hz)
  rw[hr]at this;exact this)
 obtain⟨p,k,rfl,hl,hok⟩:=arr_cells hv
 obtain⟨p',c',e,l1,l2,l3,_,HL⟩:=hl
 injection e with e1 e2 e3
 subst e1 e3
 have HLL:=Lib.hid HL
 have HPL:=Lib.hid hpl
 obtain⟨R,hR⟩:∃R,mk (arrL (arrV r c l))=R:=⟨_,rfl⟩
 have HRR:Hid (R=mk (123 :: (bodyL c.toNat 0 l++ [125]))):=Lib.hid (by rw[←hR,arr_body hdim.2.1])
 rw[hR]
 obtain⟨C,hC⟩:∃C,vcs (arrV r c l) (.slice p l.length k) nilS nilS=C:=⟨_,rfl⟩
 have HO:Hid (OneC C):=Lib.hid (by rw[←hC];exact vcs_one _ _ none none _ _ 0 0 0 0)
 have X0:Hid (C[0]? =some (.int .i64 5)):=Lib.hid (by rw[←hC];rfl)
 have X7:Hid (C[7]? =some (.int .i64 c)):=Lib.hid (by rw[←hC];rfl)
 have X8:Hid (C[8]? =some (.slice p l.length k)):=Lib.hid (by rw[←hC];rfl)
 rw[hC]at HR⊢
 have hl400:l.length≤400:=by omega
 have hc1:1≤c:=hdim.2.1
 have hc4:c≤400:=by omega
 clear hC HL hpl hdim hv hr hok hR
 unfold maxLen at l2
 have hvx:=World.vb_new w C
 have hB:=(Below.refl _ w).alloc (Nat.le_refl _) (.cells C 34)
 go_enter Tryz.func37,Tryz.ntmps37
 go_wp2_with (refine wpList_load34 rfl rfl rfl hvx HO.out.1 ?_)
 refine(HR.out _ hB hB.size).mono ?_
 rintro e2 w2 ⟨rfl,hB2⟩
 have hvx:=hvx.below hB2 (by simp)
 have hB:=hB.trans (hB2.mono (by simp))
 clear hB2 HR
 have c0:=hvx.cell X0.out
 go_wp2_with fail
 go_loopw [7,6] (fun i sv wr=>∃(K:Nat) (SA:ByteArray),K≤l.length∧i= .int .i64 (K:Int)∧sv= .string SA∧Below w.heap.size w wr∧World.vb wr w.heap.size C∧Hid (SA=mk (123 :: bodyL c.toNat 0 (l.take K)))) (fun i _ _=>l.length-(intOf i).toNat)
 case atStart=>exact⟨0,⟨#[123]⟩,Nat.zero_le _,rfl,rfl,hB,hvx,Lib.hid rfl⟩
 case round=>
  clear c0 hB hvx
  obtain⟨K,SA,hK,rfl,rfl,hB,hvx,HSA⟩:=hrel
  have c7:=hvx.cell X7.out
  have c8:=hvx.cell X8.out
  have hSz:SA.size≤1+501*K:=by
   rw[HSA.out,mk_size,List.length_cons]
   have:=body_len c.toNat 0 (l.take K) (fun x hx=>HPL.out x (List.mem_of_mem_take hx))
   rw[List.length_take]at this
   omega
  by_cases hlt:K<l.length
  ·have hKI:(K:Int)<(l.length:Int):=by omega
   obtain⟨z,hz⟩:∃x,l[K]? =some x:=⟨_,List.getElem?_eq_getElem hlt⟩
   obtain⟨g,off,cs,rfl,hg,hs,hx1,hx2⟩:=HLL.out K z hz
   have hzp:=HPL.out z (List.mem_of_getElem? hz)
   have hcs:cs=pcs z:=by
    have:=plain_cells hx1 hzp
    injection this
   have HTK:=Lib.hid (body_take (c:=c.toNat) hz)
   have hcl:=cell_len hzp
   have HCC:=Lib.hid (show ∀W,Below w.heap.size w W→∀j u,cs[j]? =some u→W.cell? ⟨g,off+K*12+j,none⟩=some u from fun W hW j u hj=>(hW.cell (p:=⟨g,_,none⟩) hg).trans (hx2 j u hj))
   have HOO:=Lib.hid hx1.one
   have q0:=HCC.out _ hB 0 (.int .i64 z.k) (by rw[hcs];rfl)
   have q3:=HCC.out _ hB 3 (.string z.s) (by rw[hcs];rfl)
   rw[Nat.add_zero]at q0
   have hqr:(K:Int).tmod c=((K%c.toNat:Nat):Int):=by
    rw[Int.tmod_eq_emod_of_nonneg (by omega)]
    have hc':((c.toNat:Nat):Int)=c:=by omega
    rw[Int.natCast_emod,hc']
   obtain⟨q,hq⟩:∃q:Nat,K%c.toNat=q:=⟨_,rfl⟩
   rw[hq]at hqr
   have hqlt:q<400:=by
    have:=Nat.mod_lt K (y:=c.toNat) (by omega)
    omega
   have hwq:IntKind.i64.wrap (q:Int)=(q:Int):=IntWalk.i64_in _ (by omega)
   have hcz:(c==0)=false:=by rw[beq_eq_false_iff_ne];omega
   have hcn:¬c=0:=by omega
   have s1:(⟨#[59]⟩:ByteArray).size=1:=rfl
   have s2:(⟨#[44]⟩:ByteArray).size=1:=rfl
   have HKD:=Lib.hid hzp
   clear hs hx1 hx2 hz
   by_cases h2:z.k=2
   ·have HCL:Hid (mk (cellL z)=mk (quotL z.s.data.toList)):=Lib.hid (by unfold cellL;rw[if_pos h2])
    have HQ:=Lib.hid (show ∀W,Calls Tryz.prog 92 #[.string z.s] W (Gives (.string (mk (cellL z))) W)from fun W=>by
     rw[HCL.out]
     exact rquoted_any z.s W (by have:=txt_small (plain_two hzp h2).2;omega))
    have hTs:(mk (cellL z)).size≤500:=by rw[mk_size];exact hcl
    rw[h2]at q0
    obtain⟨T,hT⟩:∃T,mk (cellL z)=T:=⟨_,rfl⟩
    rw[hT]at HQ hTs
    have HTT:=Lib.hid hT
    generalize z.s=zs at*
    clear h2 hzp hcs hcl hT HCL
    by_cases hK0:K=0
    ·have HSEP:Hid (sepL c.toNat K= []):=Lib.hid (by unfold sepL;rw[if_pos hK0])
     have k0:¬(0:Int)<(K:Int):=by omega
     clear hK0 hq
     have t2:SA.size+T.size≤9223372036854775807:=by omega
     have HNX:Hid (SA++T=mk (123 :: bodyL c.toNat 0 (l.take (K+1)))):=Lib.hid (by
      rw[HTK.out,HSA.out,←HTT.out,HSEP.out,mk_cat]
      simp)
     clear HTK HTT HSEP
     go_wp2_with fail
     refine(HQ.out _).mono ?_
     rintro e3 w3 ⟨rfl,hB3⟩
     have hvx:=hvx.below hB3 hvx.lt
     have hB:=hB.trans (hB3.mono hB.size)
     clear hB3 c7 c8
     go_wp2_with fail
     go_roundw
     case rel=>exact⟨K+1,_,by omega,by go_num,rfl,hB,hvx,HNX⟩
     case measure=>simp[intOf];omega
    have k0:(0:Int)<(K:Int):=by omega
    by_cases hq0:q=0
    ·have HSEP:Hid (sepL c.toNat K= [59]):=Lib.hid (by unfold sepL;rw[if_neg hK0,if_pos (by rw[hq];exact hq0)])
     have f0:((q:Int)==0)=true:=by rw[hq0];rfl
     clear hq0 hq hK0
     have t1:SA.size+(⟨#[59]⟩:ByteArray).size≤9223372036854775807:=by show SA.size+1≤_;omega
     have t2:(SA++(⟨#[59]⟩:ByteArray)).size+T.size≤9223372036854775807:=by rw[ByteArray.size_append];show SA.size+1+T.size≤_;omega
     have HNX:Hid ((SA++(⟨#[59]⟩:ByteArray))++T=mk (123 :: bodyL c.toNat 0 (l.take (K+1)))):=Lib.hid (by
      rw[HTK.out,HSA.out,←HTT.out,HSEP.out,show(⟨#[59]⟩:ByteArray)=mk [59]from rfl,mk_cat,mk_cat]
      simp)
     clear HTK HTT HSEP
     go_wp2_with fail
     refine(HQ.out _).mono ?_
     rintro e3 w3 ⟨rfl,hB3⟩
     have hvx:=hvx.below hB3 hvx.lt
     have hB:=hB.trans (hB3.mono hB.size)
     clear hB3 c7 c8
     go_wp2_with fail
     go_roundw
     case rel=>exact⟨K+1,_,by omega,by go_num,rfl,hB,hvx,HNX⟩
     case measure=>simp[intOf];omega
    have HSEP:Hid (sepL c.toNat K= [44]):=Lib.hid (by unfold sepL;rw[if_neg hK0,if_neg (by rw[hq];exact hq0)])
    have f0:((q:Int)==0)=false:=by rw[beq_eq_false_iff_ne];omega
    clear hq0 hq hK0
    have t1:SA.size+(⟨#[44]⟩:ByteArray).size≤9223372036854775807:=by show SA.size+1≤_;omega
    have t2:(SA++(⟨#[44]⟩:ByteArray)).size+T.size≤9223372036854775807:=by rw[ByteArray.size_append];show SA.size+1+T.size≤_;omega
    have HNX:Hid ((SA++(⟨#[44]⟩:ByteArray))++T=mk (123 :: bodyL c.toNat 0 (l.take (K+1)))):=Lib.hid (by
     rw[HTK.out,HSA.out,←HTT.out,HSEP.out,show(⟨#[44]⟩:ByteArray)=mk [44]from rfl,mk_cat,mk_cat]
     simp)
    clear HTK HTT HSEP
    go_wp2_with fail
    refine(HQ.out _).mono ?_
    rintro e3 w3 ⟨rfl,hB3⟩
    have hvx:=hvx.below hB3 hvx.lt
    have hB:=hB.trans (hB3.mono hB.size)
    clear hB3 c7 c8
    go_wp2_with fail
    go_roundw
    case rel=>exact⟨K+1,_,by omega,by go_num,rfl,hB,hvx,HNX⟩
    case measure=>simp[intOf];omega
   ·have f2:(z.k==2)=false:=by simpa using h2
    have HCL:Hid (mk (cellL z)=mk (writL z)):=Lib.hid (by unfold cellL;rw[if_neg h2])
    have HQ:=Lib.hid (show ∀W,Calls Tryz.prog 91 #[.agg cs] W (Gives (.string (mk (cellL z))) W)from fun W=>by
     rw[HCL.out,hcs]
     exact rwrit_any z W hzp h2)
    have hTs:(mk (cellL z)).size≤500:=by rw[mk_size];exact hcl
    obtain⟨T,hT⟩:∃T,mk (cellL z)=T:=⟨_,rfl⟩
    rw[hT]at HQ hTs
    have HTT:=Lib.hid hT
    generalize z.k=zk at*
    clear h2 hzp hcs hcl hT HCL q3
    by_cases hK0:K=0
    ·have HSEP:Hid (sepL c.toNat K= []):=Lib.hid (by unfold sepL;rw[if_pos hK0])
     have k0:¬(0:Int)<(K:Int):=by omega
     clear hK0 hq
     have t2:SA.size+T.size≤9223372036854775807:=by omega
     have HNX:Hid (SA++T=mk (123 :: bodyL c.toNat 0 (l.take (K+1)))):=Lib.hid (by
      rw[HTK.out,HSA.out,←HTT.out,HSEP.out,mk_cat]
      simp)
     clear HTK HTT HSEP
     go_wp2_with (refine wpList_load34at rfl rfl rfl HOO.out.1 (HCC.out _ hB) ?_)
     refine(HQ.out _).mono ?_
     rintro e3 w3 ⟨rfl,hB3⟩
     have hvx:=hvx.below hB3 hvx.lt
     have hB:=hB.trans (hB3.mono hB.size)
     clear hB3 c7 c8
     go_wp2_with fail
     go_roundw
     case rel=>exact⟨K+1,_,by omega,by go_num,rfl,hB,hvx,HNX⟩
     case measure=>simp[intOf];omega
    have k0:(0:Int)<(K:Int):=by omega
    by_cases hq0:q=0
    ·have HSEP:Hid (sepL c.toNat K= [59]):=Lib.hid (by unfold sepL;rw[if_neg hK0,if_pos (by rw[hq];exact hq0)])
     have f0:((q:Int)==0)=true:=by rw[hq0];rfl
     clear hq0 hq hK0
     have t1:SA.size+(⟨#[59]⟩:ByteArray).size≤9223372036854775807:=by show SA.size+1≤_;omega
     have t2:(SA++(⟨#[59]⟩:ByteArray)).size+T.size≤9223372036854775807:=by rw[ByteArray.size_append];show SA.size+1+T.size≤_;omega
     have HNX:Hid ((SA++(⟨#[59]⟩:ByteArray))++T=mk (123 :: bodyL c.toNat 0 (l.take (K+1)))):=Lib.hid (by
      rw[HTK.out,HSA.out,←HTT.out,HSEP.out,show(⟨#[59]⟩:ByteArray)=mk [59]from rfl,mk_cat,mk_cat]
      simp)
     clear HTK HTT HSEP
     go_wp2_with (refine wpList_load34at rfl rfl rfl HOO.out.1 (HCC.out _ hB) ?_)
     refine(HQ.out _).mono ?_
     rintro e3 w3 ⟨rfl,hB3⟩
     have hvx:=hvx.below hB3 hvx.lt
     have hB:=hB.trans (hB3.mono hB.size)
     clear hB3 c7 c8
     go_wp2_with fail
     go_roundw
     case rel=>exact⟨K+1,_,by omega,by go_num,rfl,hB,hvx,HNX⟩
     case measure=>simp[intOf];omega
    have HSEP:Hid (sepL c.toNat K= [44]):=Lib.hid (by unfold sepL;rw[if_neg hK0,if_neg (by rw[hq];exact hq0)])
    have f0:((q:Int)==0)=false:=by rw[beq_eq_false_iff_ne];omega
    clear hq0 hq hK0
    have t1:SA.size+(⟨#[44]⟩:ByteArray).size≤9223372036854775807:=by show SA.size+1≤_;omega
    have t2:(SA++(⟨#[44]⟩:ByteArray)).size+T.size≤9223372036854775807:=by rw[ByteArray.size_append];show SA.size+1+T.size≤_;omega
    have HNX:Hid ((SA++(⟨#[44]⟩:ByteArray))++T=mk (123 :: bodyL c.toNat 0 (l.take (K+1)))):=Lib.hid (by
     rw[HTK.out,HSA.out,←HTT.out,HSEP.out,show(⟨#[44]⟩:ByteArray)=mk [44]from rfl,mk_cat,mk_cat]
     simp)
    clear HTK HTT HSEP
    go_wp2_with (refine wpList_load34at rfl rfl rfl HOO.out.1 (HCC.out _ hB) ?_)
    refine(HQ.out _).mono ?_
    rintro e3 w3 ⟨rfl,hB3⟩
    have hvx:=hvx.below hB3 hvx.lt
    have hB:=hB.trans (hB3.mono hB.size)
    clear hB3 c7 c8
    go_wp2_with fail
    go_roundw
    case rel=>exact⟨K+1,_,by omega,by go_num,rfl,hB,hvx,HNX⟩
    case measure=>simp[intOf];omega
  ·have hKI:¬(K:Int)<(l.length:Int):=by omega
   obtain rfl:K=l.length:=by omega
   have HN:Hid (R=SA++⟨#[125]⟩):=Lib.hid (by
    rw[HRR.out,HSA.out,List.take_length,show(⟨#[125]⟩:ByteArray)=mk [125]from rfl,mk_cat]
    rfl)
   have s3:SA.size+(⟨#[125]⟩:ByteArray).size≤9223372036854775807:=by show SA.size+1≤_;omega
   go_wp2_with fail
   go_ret2
   exact⟨by rw[HN.out];rfl,hB⟩
end Go.Proofs.YtkhohjdakcchdaaGreatDoor
namespace Go.Proofs.YtkhohjdakcchdaaGreatDoor
open Go Go.RowKit Go.Shelf
set_option maxRecDepth 100000 in
set_option maxHeartbeats 4000000 in
theorem rtext37_no (x:Vl) (v:Value) (w:World) (hx:Rp w w.heap.size 3 x v) (hr:rightV 3 x=false):Calls Tryz.prog 37 #[v] w (WritPost ⟨#[]⟩ 30 w):=by
 have HR:=Lib.hid (show ∀W,Below w.heap.size w W→w.heap.size≤W.heap.size→Calls Tryz.prog 38 #[v] W (Gives (.bool false) W)from fun W hW hz=>by
  have:=rright38_any 3 x v W (hx.below hW hz)
  rw[hr]at this
  exact this)
 obtain⟨C,rfl⟩:∃C,v= .agg C:=by obtain⟨_,_,_,e,_⟩:=hx;exact⟨_,e⟩
 have HO:Hid (OneC C):=Lib.hid hx.one
 have hvx:=World.vb_new w C
 have hB:=(Below.refl _ w).alloc (Nat.le_refl _) (.cells C 34)
 clear hx hr
 go_enter Tryz.func37,Tryz.ntmps37
 go_wp2_with (refine wpList_load34 rfl rfl rfl hvx HO.out.1 ?_)
 refine(HR.out _ hB hB.size).mono ?_
 rintro e2 w2 ⟨rfl,hB2⟩
 have hB:=hB.trans (hB2.mono hB.size)
 clear hB2 hvx
 go_wp2_with fail
 go_ret2
 exact⟨rfl,hB⟩
set_option maxRecDepth 100000 in
set_option maxHeartbeats 4000000 in
theorem rtext37_fun (x:Vl) (v:Value) (w:World) (hx:Rp w w.heap.size 3 x v) (hr:rightV 3 x=true) (h6:x.k=6):Calls Tryz.prog 37 #[v] w (WritPost (mk LAMBDA) 0 w):=by
 have HR:=Lib.hid (show ∀W,Below w.heap.size w W→w.heap.size≤W.heap.size→Calls Tryz.prog 38 #[v] W (Gives (.bool true) W)from fun W hW hz=>by
  have:=rright38_any 3 x v W (hx.below hW hz)
  rw[hr]at this
  exact this)
 obtain⟨C,rfl⟩:∃C,v= .agg C:=by obtain⟨_,_,_,e,_⟩:=hx;exact⟨_,e⟩
 have HO:Hid (OneC C):=Lib.hid hx.one
 have X0:Hid (C[0]? =some (.int .i64 6)):=Lib.hid (by rw[rp_kind hx,h6])
 have hvx:=World.vb_new w C
 have hB:=(Below.refl _ w).alloc (Nat.le_refl _) (.cells C 34)
 clear hx hr h6
 go_enter Tryz.func37,Tryz.ntmps37
 go_wp2_with (refine wpList_load34 rfl rfl rfl hvx HO.out.1 ?_)
 refine(HR.out _ hB hB.size).mono ?_
 rintro e2 w2 ⟨rfl,hB2⟩
 have hvx:=hvx.below hB2 (by simp)
 have hB:=hB.trans (hB2.mono hB.size)
 clear hB2
 have c0:=hvx.cell X0.out
 go_wp2_with fail
 go_ret2
 exact⟨rfl,hB⟩
theorem rtext37_all (x:Vl) (v:Value) (w:World) (hx:Rp w w.heap.size 3 x v):Calls Tryz.prog 37 #[v] w (WritPost (mk (textV 3 x).1) (textV 3 x).2 w):=by
 cases hr:rightV 3 x with
 |false=>
  have e:textV 3 x=([],30):=by unfold textV;rw[if_neg (by rw[hr];decide)]
  rw[e]
  exact rtext37_no x v w hx hr
 |true=>
  by_cases h6:x.k=6
  ·have e:textV 3 x=(LAMBDA,0):=by unfold textV;rw[if_pos hr,if_pos h6]
   rw[e]
   exact rtext37_fun x v w hx hr h6
  by_cases h5:x.k=5
  ·have e:textV 3 x=(arrL x,0):=by unfold textV;rw[if_pos hr,if_neg h6,if_neg (by omega),if_pos h5]
   rw[e]
   have hP:ArrP x:= .inr ⟨h5,by rw[rightV,if_pos h5]at hr ⊢;exact hr⟩
   have hn:=hP.nice hx
   cases hn with
   |plain h=>exact absurd h5 (plain_kind h).1
   |arr h=>exact rtext_arr 1 _ _ _ v w hx hr
  ·have hp:plainV x=true:=by
    rw[rightV,if_neg h5,if_neg h6]at hr
    exact hr
   have hv:=plain_cells hx hp
   subst hv
   by_cases h2:x.k=2
   ·obtain⟨hxx,hs⟩:=plain_two hp h2
    have e:(textV 3 x).1=(textV 2 x).1∧(textV 3 x).2=0:=by
     unfold textV
     rw[if_pos (right_of_plain 1 hp),if_pos hr]
     exact⟨rfl,rfl⟩
    rw[e.1,e.2,hxx]
    exact rtext_txt x.s w hs
   ·have e:textV 3 x=(writL x,0):=by unfold textV;rw[if_pos hr,if_neg h6,if_neg h2,if_neg h5]
    rw[e]
    exact rtext_writ x w hp h2
end Go.Proofs.YtkhohjdakcchdaaGreatDoor
