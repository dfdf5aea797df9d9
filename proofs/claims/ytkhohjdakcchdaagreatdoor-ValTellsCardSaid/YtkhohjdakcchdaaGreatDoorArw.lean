/- val.array: an array, row by row. -/
import Derived.Test.YtkhohjdakcchdaaGreatDoorBb
import Derived.Test.YtkhohjdakcchdaaGreatDoorBm
import Derived.Test.YtkhohjdakcchdaaGreatDoorBk
import Derived.Test.YtkhohjdakcchdaaGreatDoorWrt
import Derived.Test.YtkhohjdakcchdaaGreatDoorLib
namespace Go.Proofs.YtkhohjdakcchdaaGreatDoor
open Go Go.RowKit Go.Shelf
attribute [local go_sem] Oper.semAt_some
theorem info9 :(Tryz.prog.info? 9).map (fun i=>(i.zero,i.size,i.bytes))=some (some (.string ⟨#[]⟩),1,16):=by kernel_rfl
/-- A plain value in an array, written. -/
def cellS (x:Vl):ByteArray:=mk (cellL x)
def rowS (c:Nat) (l:List Vl) (i:Nat):ByteArray:=mk (rowT c l i)
def strs (ss:List ByteArray):List Value:=ss.map Value.string
theorem strs_snoc (ss:List ByteArray) (s:ByteArray):strs (ss++ [s])=strs ss++ [.string s]:=by simp[strs]
theorem rowS_eq (c:Nat) (l:List Vl) (i:Nat):rowS c l i=⟨(Lib.join ((((l.drop (i*c)).take c).map cellS).map (·.data.toList)) [44]).toArray⟩:=by
 unfold rowS rowT mk
 rw[List.map_map]
 rfl
theorem quot_bytes (s:ByteArray):(⟨#[34]⟩:ByteArray)++⟨(Lib.replaceAll s.data.toList [34] [34,34]).toArray⟩++⟨#[34]⟩=mk (quotL s.data.toList):=by
 rw[rep_dbl,quotL_dbl]
 apply ByteArray.ext
 simp[ByteArray.data_append,mk]
theorem own_ne {v:Value} {g:Nat} (h:∀k,v.ownBlock=some k→k≠g):v.ownBlock=none∨v.ownBlock≠some g:=by
 cases hv:v.ownBlock with
 |none=>exact .inl rfl
 |some k=>exact .inr (by intro e;injection e with e;exact h k hv e)
theorem own_below {w w':World} {B base:Nat} {e:TypeId} {size:Nat} {v:Value} {n:Nat} {xs:List Value} (h:w.ownsRow base e size v n xs) (hb:Below B w w') (hB:w.heap.size≤B):w'.ownsRow base e size v n xs:=
 World.ownsRow.kept (row:=none) h ⟨hb.os,hb.tape,hb.output,hb.size,fun k hk _=>hb.block k (Nat.lt_of_lt_of_le hk hB)⟩ (by
  cases hv:v.ownBlock with
  |none=>exact .inl rfl
  |some k=>exact .inr (by intro e;cases e))
theorem Boxed.drew' {W:World} {B:Nat} {t:TypeId} {v:Value} (h:Boxed W B t v):Boxed W.drew B t v:=h
section
variable {F : Fence} {n : Nat} {o : Oper} {a : Act} {w : World} {K : Act → World → Prop} {Q : Exit → Act → World → Prop}
theorem opIn_append_str {g:Nat} {s:ByteArray} (base:Nat) (x y:Operand) (ho:o.op= .call {callee:= .builtin .append,args:= #[x,y],argTypes:= #[30,30]})
 (v:Value) (k:Nat) (xs:List Value) (hs:a.eval x=v) (hown:w.ownsRow base 9 1 v k xs) (hx:a.eval y= .slice (some ⟨g,0,none⟩) 1 1) (hc:∀j u,([.string s]:List Value)[j]? =some u→w.cell? ((⟨g,0,none⟩:Addr).add j)=some u) (hk:k≤1000) (hbase:base≤w.heap.size)
 (h:∀v' w',w'.ownsRow base 9 1 v' (k+1) (xs++ [.string s])→w.grownBy w' v.ownBlock→K (a.put o.dst v') w'):o.wpIn F n Tryz.prog a w K Q:=by
 obtain⟨i0,hi,hz0,hz1,hz2⟩:=info_parts info9
 obtain⟨v',w',hr,h2,h3,h4⟩:=run_append_own (P:=Tryz.prog) w base 30 o.type 9 i0 (.string ⟨#[]⟩) 1 16 Tryz.underlying30 hi hz0 hz1 hz2 rfl (by decide) v k xs hown ⟨g,0,none⟩ 1 1 [.string s] rfl hc (by simp[Value.oneCell']) (by unfold maxLen;omega) (by omega) hbase
 unfold Oper.wpIn
 refine⟨by simp[Oper.about,ho,resolve,Target.leads,Sem.run_pure],?_⟩
 rw[Oper.semAt_plain F _ _ (by rw[ho];intro c hc';cases hc')]
 simp[execOp,ho,resolve,invoke,builtin,hs,hx,hr,Result.andThen]
 exact h v' w' h2 h3
end
theorem strs_snoc' (ss ts:List ByteArray):strs (ss++ts)=strs ss++strs ts:=by simp[strs]
theorem upto_map (R c:Nat) (l:List Vl):(upto R R).map (fun x=>rowS c l x.1)=(List.range R).map (rowS c l):=by
 have h:∀k,k≤R→(upto R k).map (fun x=>rowS c l x.1)=(List.range k).map (rowS c l):=by
  intro k
  induction k with
  |zero=>intro _;rfl
  |succ k ih=>
   intro hk
   rw[upto_succ (by omega),List.map_append,ih (by omega),List.range_succ,List.map_append]
   rfl
 exact h R (Nat.le_refl _)
theorem own_mono {w:World} {base base':Nat} {e:TypeId} {size:Nat} {v:Value} {n:Nat} {xs:List Value} (h:w.ownsRow base e size v n xs) (hb:base'≤base):w.ownsRow base' e size v n xs:=by
 refine⟨h.1,?_⟩
 rcases h.2 with h2|⟨g,cap,cur,e,hg,h3⟩
 ·exact .inl h2
 ·exact .inr ⟨g,cap,cur,e,Nat.le_trans hb hg,h3⟩
theorem rep_any (s:ByteArray) (w:World) (hs:s.size≤1000) (hS:Shp w):Calls Tryz.prog 113 #[.string s,.string ⟨#[34]⟩,.string ⟨#[34,34]⟩] w (Gives (.string ⟨(Lib.replaceAll s.data.toList [34] [34,34]).toArray⟩) w):=by
 obtain⟨m,hm⟩:=hS
 have h1:Lib.countB s ⟨#[34]⟩*(⟨#[34]⟩:ByteArray).size≤s.size:=Lib.countB_mul_le ⟨#[34]⟩ (by decide) s.size s (Nat.le_refl _)
 have e1:(⟨#[34]⟩:ByteArray).size=1:=rfl
 have e2:(⟨#[34,34]⟩:ByteArray).size=2:=rfl
 rw[e1]at h1
 exact Tryz.strings_ReplaceAll s ⟨#[34]⟩ ⟨#[34,34]⟩ m w (by omega) hm (by decide) (by rw[e2];omega)
theorem joinS_any (D:Nat) (v:Value) (ss:List ByteArray) (sep:ByteArray) (w:World) (hv:w.ownsRow D 9 1 v ss.length (strs ss)) (hne:ss≠ []) (hl:ss.length≤400) (hb:∀s∈ss,s.size≤300000) (hsep:sep.size≤10):
 Calls Tryz.prog 114 #[v,.string sep] w (Gives (.string ⟨(Lib.join (ss.map (·.data.toList)) sep.data.toList).toArray⟩) w):=by
 rcases hv.2 with ⟨_,e⟩|⟨g,cap,cur,rfl,_,hgb,hcap,_⟩
 ·exact absurd (List.eq_nil_of_length_eq_zero e) hne
 ·refine Tryz.strings_Join g 0 cap ss sep w (fun j x hj=> ?_) (Array.getElem?_eq_some_iff.1 hgb).1 (by omega) hcap ?_
  ·have:=World.ownsRow.cells hv (g:=g) rfl j (.string x) (by simp[strs,hj])
   rw[add_at]at this
   exact this
  ·have:=join_len sep.data.toList 300000 (ss.map (·.data.toList)) (fun x hx=>by
    obtain⟨s,hs,rfl⟩:=List.mem_map.1 hx
    have:=hb s hs
    rw[Lib.size_eq]at this
    exact this)
   rw[List.length_map]at this
   rw[Lib.size_eq]at hsep
   have h2:ss.length*(300000+sep.data.toList.length)≤400*300010:=Nat.mul_le_mul hl (by omega)
   omega
section
variable {F : Fence} {n : Nat} {ops : Array Oper} {rest : List Oper} {o : Oper} {a : Act} {w : World} {Q : Exit → Act → World → Prop}
theorem wpListIn_load34at {x:Operand} {g off:Nat} {cs:Array Value} (hgd:o.guard=none) (ho:o.op= .load 34 x) (hx:a.eval x= .pointer (some ⟨g,off,none⟩)) (hs:cs.size=12)
 (hc:∀j u,cs[j]? =some u→w.cell? ⟨g,off+j,none⟩=some u) (h:wpListIn F n Tryz.prog ops Q rest (a.put o.dst (.agg cs)) w):wpListIn F n Tryz.prog ops Q (o :: rest) a w:=
 wpListIn_plain hgd fun _ hK=>by
  have hr:=run_load_at w g off 34 cs _ hc Tryz.underlying34 rfl (by rw[hs];exact info34)
  unfold Oper.wpIn
  refine⟨by simp[Oper.about,ho],?_⟩
  rw[Oper.semAt_plain F _ _ (by rw[ho];intro c hc';cases hc')]
  simp only[execOp,ho,hx,Instr.loadAt,Instr.sureAddr,Sem.run_bind,Sem.run_pure,Result.andThen_ok,hr]
  exact hK _ _ h
theorem wpListIn_load34 {x:Operand} {g:Nat} {cs:Array Value} (hgd:o.guard=none) (ho:o.op= .load 34 x) (hx:a.eval x= .pointer (some ⟨g,0,none⟩)) (hn:World.vb w g cs) (hs:cs.size=12)
 (h:wpListIn F n Tryz.prog ops Q rest (a.put o.dst (.agg cs)) w):wpListIn F n Tryz.prog ops Q (o :: rest) a w:=
 wpListIn_load34at hgd ho hx hs (fun j u hj=>by rw[Nat.zero_add];exact hn.cell hj) h
theorem wpListIn_alloc34 (hgd:o.guard=none) (ho:o.op= .alloc 34)
 (h:wpListIn F n Tryz.prog ops Q rest (a.put o.dst (.pointer (some ⟨w.heap.size,0,none⟩))) (w.alloc (.cells vz 34))):wpListIn F n Tryz.prog ops Q (o :: rest) a w:=
 wpListIn_plain hgd fun K hK=>by
  have hz:=zero34 w
  unfold Oper.wpIn
  refine⟨by simp[Oper.about,ho],?_⟩
  rw[Oper.semAt_plain F _ _ (by rw[ho];intro c hc';cases hc')]
  simp[execOp,ho,Instr.alloc,Sem.run_bind,hz,newVar,newRow,newObj,Value.cells]
  exact hK _ _ h
theorem wpListIn_store34 {x y:Operand} {g:Nat} {cs cs':Array Value} (hgd:o.guard=none) (ho:o.op= .store 34 x y) (hx:a.eval x= .pointer (some ⟨g,0,none⟩)) (hy:a.eval y= .agg cs')
 (hn:World.vb w g cs) (hs:cs.size=12) (h1:OneC cs') (h:∀w1,World.vb w1 g cs'→w.grownBy w1 (some g)→w1.heap.size=w.heap.size→wpListIn F n Tryz.prog ops Q rest (a.put o.dst undef) w1):wpListIn F n Tryz.prog ops Q (o :: rest) a w:=
 wpListIn_plain hgd fun K hK=>by
  have hr:=run_storeVar_row (P:=Tryz.prog) w g 34 34 cs cs' hn (by rw[h1.1];exact info34) (by rw[hs,h1.1]) h1.2
  unfold Oper.wpIn
  refine⟨by simp[Oper.about,ho],?_⟩
  rw[Oper.semAt_plain F _ _ (by rw[ho];intro c hc';cases hc')]
  simp only[execOp,ho,hx,hy,Instr.storeAt,Instr.sureAddr,Sem.run_bind,Sem.run_pure,Result.andThen_ok,hr]
  exact hK _ _ (h _ hn.setRow (setRow_grownBy _ _ _) (by simp))
end
set_option maxRecDepth 100000 in
set_option maxHeartbeats 8000000 in
theorem array61_any (r c:Nat) (l:List Vl) (g0 off cap:Nat) (w:World) (hr:rightV 1 (arrV r c l)=true) (hg0:g0<w.heap.size) (hcap:r*c≤cap)
 (hlk:∀i y,l[i]? =some y→∀j u,(pcs y)[j]? =some u→w.cell? ⟨g0,off+i*12+j,none⟩=some u) (hS:Shp w):
 Calls Tryz.prog 61 #[.agg (vcs (arrV r c l) (.slice (some ⟨g0,off,none⟩) (r*c) cap) nilS nilS)] w (Gives (.string (mk (arrL (arrV r c l)))) w):=by
 have hd:=(right_arr.1 hr).1
 have hpl:=(right_arr.1 hr).2
 have hc1:1≤c:=by omega
 have hr1:1≤r:=by omega
 have hrc:r*c≤400:=by have h:=hd.2.2.2.2.1;rw[←Int.natCast_mul]at h;omega
 have hll:l.length=r*c:=by have h:=hd.2.2.2.2.2;rw[←Int.natCast_mul]at h;omega
 obtain⟨i0,hi,hz0,hz1,hz2⟩:=info_parts info9
 obtain⟨C,hC⟩:∃C,vcs (arrV r c l) (.slice (some ⟨g0,off,none⟩) (r*c) cap) nilS nilS=C:=⟨_,rfl⟩
 have x7:C[7]? =some (.int .i64 c):=by rw[←hC];rfl
 have x8:C[8]? =some (.slice (some ⟨g0,off,none⟩) (r*c) cap):=by rw[←hC];rfl
 have hAL:=arrL_rows hr
 rw[hC]
 clear hC
 obtain⟨T,hT⟩:∃T,r*c=T:=⟨_,rfl⟩
 rw[hT]at x8
 refine(callsIn_wide (n:=4)).1 ?_
 refine callsIn_of_wp_marks Tryz.func61 rfl trivial ?_ rfl
 simp only[Tryz.ntmps61,List.size_toArray,List.length_cons,List.length_nil,Nat.reduceAdd,Nat.reduceSub,Array.replicate_succ,Array.replicate_zero,List.push_toArray,List.append_toArray,List.nil_append,List.cons_append]
 gi_wp2_with (refine⟨trivial,?_⟩;gi_at_call 112;refine(callsIn_wide.2 (chunk_any _ c _ (some ⟨g0,off,none⟩) T cap rfl (by omega))).mono ?_;rintro e w1 ⟨rfl,rfl⟩)
 obtain⟨W0,hW0⟩:∃W0,W0=(((w.alloc (.cells C 34)).alloc (.cells #[.slice none 0 0] 30)).alloc (.cells #[.slice (some ⟨g0,off,none⟩) T cap] 28)).alloc (.cells #[.int .i64 c] 3):=⟨_,rfl⟩
 rw[←hW0]
 have hsz0:W0.heap.size=w.heap.size+4:=by rw[hW0];simp
 have hB0:Below w.heap.size w W0:=by rw[hW0];exact((((Below.refl _ w).alloc (Nat.le_refl _) _).alloc (by simp) _).alloc (by simp;omega) _).alloc (by simp;omega) _
 have bO:Boxed W0 (w.heap.size+1) 30 nilS:=by
  rw[hW0]
  have:=Boxed.new (w.alloc (.cells C 34)) 30 nilS
  rw[World.size_alloc]at this
  exact(this.alloc _).alloc _
 have bL:Boxed W0 (w.heap.size+2) 28 (.slice (some ⟨g0,off,none⟩) T cap):=by
  rw[hW0]
  have:=Boxed.new ((w.alloc (.cells C 34)).alloc (.cells #[.slice none 0 0] 30)) 28 (.slice (some ⟨g0,off,none⟩) T cap)
  rw[World.size_alloc,World.size_alloc]at this
  exact this.alloc _
 have bC:Boxed W0 (w.heap.size+3) 3 (.int .i64 c):=by
  rw[hW0]
  have:=Boxed.new (((w.alloc (.cells C 34)).alloc (.cells #[.slice none 0 0] 30)).alloc (.cells #[.slice (some ⟨g0,off,none⟩) T cap] 28)) 3 (.int .i64 c)
  rw[World.size_alloc,World.size_alloc,World.size_alloc]at this
  exact this
 clear hW0
 have bL':=bL.cell
 rw[←hT]at bL'
 refine wpIn_rangeFunc_ownG (n:=4) rfl (by omega) (gf:=141) (lb:= #[.pointer (some ⟨w.heap.size+2,0,none⟩),.pointer (some ⟨w.heap.size+3,0,none⟩)]) rfl trivial (enters_of Tryz.func141 (by kernel_rfl) rfl)
  (chunk_stops (w.heap.size+2) (w.heap.size+3) (w.heap.size+1) (w.heap.size+4) g0 off c cap r W0 bL' bC.cell (by omega) (by omega) (by omega) (by omega) hc1 hrc hcap) KpC.trans
  (fun W l o o' hl h1 h2 h3=>⟨(grownBy_putObj' W l o').size,fun k hk hb=>World.putObj_heap_other (by omega)⟩) (Below.refl _ _) (fun _=>rfl)
  (fun (pre:List (Row r)) W=>((∃v,Boxed W (w.heap.size+1) 30 v∧W.ownsRow (w.heap.size+4) 9 1 v pre.length (strs (pre.map fun x=>rowS c l x.1))∧True)∧Below w.heap.size w W)∧w.heap.size+4≤W.heap.size)
  (fun _ _ _=>False)
  (OwnFrom.and (OwnFrom.and (Own.from (holdsRow_own (w.heap.size+4) (w.heap.size+1) 30 9 1 (fun (pre:List (Row r))=>pre.length) (fun (pre:List (Row r))=>strs (pre.map fun x=>rowS c l x.1)) (fun _ _=>True)) _) (ownFrom_below (Nat.le_refl _) (by omega))) (fun _ _ _ _ hs hg _=>Nat.le_trans hs hg.size))
  (fun _ _ _ _ _ hs _ _=>hs)
  ⟨⟨⟨_,bO,World.ownsRow_nil _ _ _ _,trivial⟩,hB0⟩,by omega⟩
  ?a1 ?assign ?body ?done ?stop
 case assign=>
  intro l x W K hK
  gi_wp2
  exact hK
 case body=>
  rintro lp pre ⟨i,hir⟩ W ⟨⟨⟨v,hv,hrow,_⟩,hB1⟩,hq4⟩ hlt
  obtain⟨M,hM⟩:∃M,i*c=M:=⟨_,rfl⟩
  have hMT:M+c≤T:=by
   rw[←hM,←hT]
   have:=Nat.mul_le_mul_right c (show i+1≤r from hir)
   rw[Nat.add_mul,Nat.one_mul]at this
   exact this
  obtain⟨rl,hrl⟩:∃rl,(l.drop M).take c=rl:=⟨_,rfl⟩
  have hrll:rl.length=c:=by rw[←hrl,List.length_take,List.length_drop];omega
  have HEL:=Lib.hid (show ∀K,K<c→∃y,rl[K]? =some y∧plainV y=true∧∀W',Below w.heap.size w W'→∀j u,(pcs y)[j]? =some u→W'.cell? ⟨g0,off+i*c*12+K*12+j,none⟩=some u from fun K hK=>by
   have hy:rl[K]? =l[M+K]? :=by rw[←hrl,List.getElem?_take,if_pos hK,List.getElem?_drop]
   obtain⟨y,hy2⟩:∃y,l[M+K]? =some y:=⟨_,List.getElem?_eq_getElem (by omega)⟩
   refine⟨y,hy.trans hy2,hpl y (List.mem_of_getElem? hy2),fun W' hW j u hj=> ?_⟩
   have:=hlk (M+K) y hy2 j u hj
   rw[show off+(M+K)*12+j=off+i*c*12+K*12+j by rw[hM];omega]at this
   exact(hW.cell (p:=⟨g0,_,none⟩) hg0).trans this)
  have HRS:Hid (rowS c l i=⟨(Lib.join ((rl.map cellS).map (·.data.toList)) [44]).toArray⟩):=Lib.hid (by rw[rowS_eq,hM,hrl])
  have HSH:=Lib.hid (show ∀W',Below w.heap.size w W'→Shp W' from fun W' hW=>hS.below hW)
  have hc4:c≤400:=by omega
  have hr4:r≤400:=by
   have:=Nat.le_mul_of_pos_right r hc1
   omega
  have hi4:i≤400:=by
   have:=Nat.le_mul_of_pos_right r hc1
   omega
  have HV:=Lib.hid hv
  have HROW:=Lib.hid hrow
  have hsW:=hB1.size
  have hbw:w.heap.size+1<W.heap.size:=hv.lt
  clear hv hrow hlk hrl bL bC bO bL' hAL hd hll hrc hcap hS hr hpl hB0 hT hM x7 x8
  gi_wp2
  gi_loopw [5,16] (fun s5 i wr=>∃(K:Nat) (sv:Value),s5=sv∧i= .int .i64 (K:Int)∧K≤c∧wr.ownsRow W.heap.size 9 1 sv K (strs ((rl.take K).map cellS))∧Below W.heap.size W wr) (fun _ i _=>c-(intOf i).toNat)
  case atStart=>exact⟨0,_,rfl,rfl,Nat.zero_le _,World.ownsRow_nil _ _ _ _,Below.refl _ _⟩
  case round=>
   obtain⟨K,sv,rfl,rfl,hK,hown,hBr⟩:=hrel
   by_cases hltK:K<c
   ·have hKI:(K:Int)<(c:Int):=by omega
    obtain⟨y,hy,hyp,hcy⟩:=HEL.out K hltK
    have HC:=Lib.hid (hcy wr (hB1.trans (hBr.mono hsW)))
    have hO:=pcs_one y
    have HT2:Hid ((rl.take (K+1)).map cellS=(rl.take K).map cellS++ [cellS y]):=Lib.hid (by rw[List.take_add_one,hy];simp)
    by_cases hk2:y.k=2
    ·obtain⟨S,hS⟩:∃S,y.s=S:=⟨_,rfl⟩
     have hS2:=(plain_two hyp hk2).2
     rw[hS]at hS2
     have hSs:S.size≤1000:=by
      unfold txtOk at hS2
      simp at hS2
      omega
     have HQ:Hid ((⟨#[34]⟩:ByteArray)++⟨(Lib.replaceAll S.data.toList [34] [34,34]).toArray⟩++⟨#[34]⟩=cellS y):=Lib.hid (by
      rw[quot_bytes]
      unfold cellS cellL
      rw[if_pos hk2,hS])
     have HRP:=Lib.hid (show ∀W',Below w.heap.size w W'→Calls Tryz.prog 113 #[.string S,.string ⟨#[34]⟩,.string ⟨#[34,34]⟩] W' (Gives (.string ⟨(Lib.replaceAll S.data.toList [34] [34,34]).toArray⟩) W')from fun W' hW=>rep_any S W' hSs (HSH.out W' hW))
     obtain⟨X,hX⟩:∃X:ByteArray,⟨(Lib.replaceAll S.data.toList [34] [34,34]).toArray⟩=X:=⟨_,rfl⟩
     have hXs:X.size≤2000:=by
      rw[←hX,rep_dbl]
      have:=dbl_len S.data.toList
      rw[Lib.size_eq]at hSs
      show(dbl S.data.toList).length≤2000
      omega
     have hX2:((⟨#[34]⟩:ByteArray)++X).size≤2001:=by
      rw[ByteArray.size_append]
      show 1+X.size≤2001
      omega
     rw[hX]at HQ HRP
     obtain⟨C2,hC2⟩:∃C2,pcs y=C2:=⟨_,rfl⟩
     have y0:C2[0]? =some (.int .i64 2):=by rw[←hC2,←hk2];rfl
     have y3:C2[3]? =some (.string S):=by rw[←hC2,←hS];rfl
     rw[hC2]at HC hO
     have HO:=Lib.hid hO
     clear hy hyp hcy hk2 hS hS2 hX hC2 hO
     gi_wp2_with (first|refine wpListIn_load34at rfl rfl rfl HO.out.1 HC.out ?_|refine wpListIn_alloc34 rfl rfl ?_|(refine wpListIn_store34 rfl rfl rfl rfl (World.vb_new _ vz) (by rfl) HO.out ?_;intro w3 hn3 hg3 hz3;have hB3:=(hBr.alloc hBr.size (.cells vz 34)).grown hg3 (by have:=hBr.size;simp;omega) (fun k9 hk9=>by cases hk9;exact hBr.size);have c0:=hn3.cell y0;have c3:=hn3.cell y3;have hown:=World.ownsRow.kept (World.ownsRow.alloc hown (.cells vz 34)) hg3 (own_ne (fun k9 hk9=>by have:=(World.ownsRow.lt hown k9 hk9).2;omega))))
     refine⟨trivial,?_⟩
     gi_at_call 113
     refine(CallsIn.inRound lp (callsIn_wide.2 (HRP.out _ (hB1.trans (hB3.mono hsW))))).mono ?_
     rintro e w4 ⟨rfl,hB4⟩
     have hown:=own_below hown hB4 (Nat.le_refl _)
     have hB5:=hB3.trans (hB4.mono hB3.size)
     have hsz5:=hB5.size
     clear c0 c3 hn3 hg3 hz3 hB3 hB4
     gi_wp2_with (gi_at_builtin;refine wpListIn_append_own _ rfl _ _ 30 rfl W.heap.size 9 i0 (.string ⟨#[]⟩) 1 16 Tryz.underlying30 hi hz0 hz1 hz2 rfl (by decide) _ K _ rfl (World.ownsRow.alloc hown _) ⟨w4.heap.size,0,none⟩ 1 1 [_] rfl rfl (cell_one_new _ _ _) (by simp[Value.oneCell']) (by unfold maxLen;omega) (by omega) (by simp;omega) ?_;intro v' w5 hown5 hg5 _)
     have hB6:Below W.heap.size W w5:=(hB5.alloc hB5.size _).grown hg5 (by simp;omega) (fun k9 hk9=>(World.ownsRow.lt hown k9 hk9).1)
     go_roundw
     case rel=>exact⟨K+1,_,rfl,by go_num,by omega,by rw[HT2.out,strs_snoc,←HQ.out];exact hown5,hB6⟩
     case measure=>simp[intOf];omega
    ·have HWR:=Lib.hid (show ∀W',Calls Tryz.prog 62 #[.agg (pcs y)] W' (Gives (.string (cellS y)) W')from fun W'=>by
      have:=writ_any y W' hyp hk2
      unfold cellS cellL
      rw[if_neg hk2]
      exact this)
     obtain⟨C2,hC2⟩:∃C2,pcs y=C2:=⟨_,rfl⟩
     have y0:C2[0]? =some (.int .i64 y.k):=by rw[←hC2];rfl
     obtain⟨SS,hSS⟩:∃SS,cellS y=SS:=⟨_,rfl⟩
     have f2:(y.k==2)=false:=by simpa using hk2
     rw[hC2]at HC hO HWR
     rw[hSS]at HT2 HWR
     have HO:=Lib.hid hO
     generalize y.k=k at y0 f2
     clear hy hyp hcy hk2 hC2 hO hSS
     gi_wp2_with (first|refine wpListIn_load34at rfl rfl rfl HO.out.1 HC.out ?_|refine wpListIn_alloc34 rfl rfl ?_|(refine wpListIn_store34 rfl rfl rfl rfl (World.vb_new _ vz) (by rfl) HO.out ?_;intro w3 hn3 hg3 hz3;have hB3:=(hBr.alloc hBr.size (.cells vz 34)).grown hg3 (by have:=hBr.size;simp;omega) (fun k9 hk9=>by cases hk9;exact hBr.size);have c0:=hn3.cell y0;have hown:=World.ownsRow.kept (World.ownsRow.alloc hown (.cells vz 34)) hg3 (own_ne (fun k9 hk9=>by have:=(World.ownsRow.lt hown k9 hk9).2;omega)))|refine wpListIn_load34 rfl rfl rfl hn3 HO.out.1 ?_)
     refine⟨trivial,?_⟩
     gi_at_call 62
     refine(CallsIn.inRound lp (callsIn_wide.2 (HWR.out _))).mono ?_
     rintro e w4 ⟨rfl,hB4⟩
     have hown:=own_below hown hB4 (Nat.le_refl _)
     have hB5:=hB3.trans (hB4.mono hB3.size)
     have hsz5:=hB5.size
     clear c0 hn3 hg3 hz3 hB3 hB4
     gi_wp2_with (gi_at_builtin;refine wpListIn_append_own _ rfl _ _ 30 rfl W.heap.size 9 i0 (.string ⟨#[]⟩) 1 16 Tryz.underlying30 hi hz0 hz1 hz2 rfl (by decide) _ K _ rfl (World.ownsRow.alloc hown _) ⟨w4.heap.size,0,none⟩ 1 1 [_] rfl rfl (cell_one_new _ _ _) (by simp[Value.oneCell']) (by unfold maxLen;omega) (by omega) (by simp;omega) ?_;intro v' w5 hown5 hg5 _)
     have hB6:Below W.heap.size W w5:=(hB5.alloc hB5.size _).grown hg5 (by simp;omega) (fun k9 hk9=>(World.ownsRow.lt hown k9 hk9).1)
     go_roundw
     case rel=>exact⟨K+1,_,rfl,by go_num,by omega,by rw[HT2.out,strs_snoc];exact hown5,hB6⟩
     case measure=>simp[intOf];omega
   ·obtain rfl:K=c:=by omega
    have hKI:¬((K:Int)<(K:Int)):=by omega
    rw[List.take_of_length_le (by omega)]at hown
    have hn1:rl.map cellS≠ []:=by
     intro e
     have:=congrArg List.length e
     rw[List.length_map,hrll]at this
     simp at this
     omega
    have hpy:∀s∈rl.map cellS,s.size≤300000:=by
     intro s hs
     obtain⟨y,hy,rfl⟩:=List.mem_map.1 hs
     obtain⟨k,hk,e⟩:=List.getElem_of_mem hy
     obtain⟨y',hy',hp',_⟩:=HEL.out k (by omega)
     have:rl[k]? =some y:=by rw[List.getElem?_eq_getElem hk,e]
     rw[this]at hy'
     injection hy' with hy'
     subst hy'
     have:=cellL_len hp'
     show(cellL y).length≤300000
     omega
    have hlm:(rl.map cellS).length=K:=by rw[List.length_map,hrll]
    have HJ:=Lib.hid (show ∀W',wr.drew=W'→Calls Tryz.prog 114 #[u5,.string ⟨#[44]⟩] W' (Gives (.string (rowS K l i)) W')from fun W' hW'=>by
     subst hW'
     have:=joinS_any W.heap.size u5 (rl.map cellS) ⟨#[44]⟩ wr.drew (by rw[hlm];exact own_below hown (Below.refl wr.heap.size wr).drew (Nat.le_refl _)) hn1 (by omega) hpy (by decide)
     rw[HRS.out]
     exact this)
    obtain⟨RS,hRS⟩:∃RS,rowS K l i=RS:=⟨_,rfl⟩
    rw[hRS]at HJ
    have HRS2:=Lib.hid hRS
    have hv:Boxed wr (w.heap.size+1) 30 v:=(hBr.block _ HV.out.lt).trans HV.out
    have hrow:=own_below HROW.out hBr (Nat.le_refl _)
    have hszr:=hBr.size
    have hB1r:=hB1.trans (hBr.mono hsW)
    have cO:=hv.cell
    have fO:=hv.frozen
    have hpre:pre.length≤400:=by omega
    clear hRS hn1 hpy hlm hown
    gi_wp2
    have hv:=Boxed.drew' hv
    have hrow:=own_below hrow (Below.refl wr.heap.size wr).drew (Nat.le_refl _)
    have hBd:Below W.heap.size W wr.drew:=hBr.drew
    have cO:=hv.cell
    have fO:=hv.frozen
    have hszr:W.heap.size≤wr.drew.heap.size:=hszr
    refine wpIn_region_any (by kernel_rfl) ?_
    change wpAnyIn _ _ _ _ _ _ _ _ _ (World.drew _)
    refine wpAnyIn_ready (rs:= [0,1]) (by kernel_rfl) (by simp) ?_
    refine(AllReadyIn.cons (o:=⟨some 37,_,_,_,_,_⟩) rfl (fun KK hK=> ?_) (AllReadyIn.cons (o:=⟨some 38,_,_,_,_,_⟩) rfl (fun KK hK=> ?_) AllReadyIn.nil))
    ·go_simp
     refine hK _ _ ?_
     clear hK KK
     try simp only[Act.put,pk1,pk2,pk3]
     refine wpAnyIn_ready (rs:= [1]) (by kernel_rfl) (by simp) ?_
     refine(AllReadyIn.cons (o:=⟨some 38,_,_,_,_,_⟩) rfl (fun KK hK=> ?_) AllReadyIn.nil)
     ·go_simp
      refine hK _ _ ?_
      clear hK KK
      try simp only[Act.put,pk1,pk2,pk3]
      refine wpAnyIn_ready (rs:= [2]) (by kernel_rfl) (by simp) ?_
      refine(AllReadyIn.cons (o:=⟨some 39,_,_,_,_,_⟩) rfl (fun KK hK=> ?_) AllReadyIn.nil)
      ·go_simp
       refine⟨trivial,?_⟩
       gi_at_call 114
       refine(CallsIn.inRound lp (callsIn_wide.2 (HJ.out _ rfl))).mono ?_
       rintro e w2 ⟨rfl,hB2⟩
       have hv2:Boxed w2 (w.heap.size+1) 30 v:=(hB2.block _ hv.lt).trans hv
       have hrow2:=own_below hrow hB2 (Nat.le_refl _)
       have cO:=hv2.cell
       have fO:=hv2.frozen
       have hs2:=hB2.size
       have hBd2:=hBd.trans (hB2.mono hBd.size)
       have hq1:w.heap.size+4≤w2.heap.size:=Nat.le_trans hq4 hBd2.size
       refine hK _ _ ?_
       clear hK KK
       try simp only[Act.put,pk1,pk2,pk3]
       refine wpAnyIn_ready (rs:= [3]) (by kernel_rfl) (by simp) ?_
       refine(AllReadyIn.cons (o:=⟨some 40,_,_,_,_,_⟩) rfl (fun KK hK=> ?_) AllReadyIn.nil)
       ·go_simp
        obtain⟨w3,hw3⟩:∃w3,w3=w2.alloc (.cells #[.string RS] 9):=⟨_,rfl⟩
        rw[←hw3]
        have hv3:Boxed w3 (w.heap.size+1) 30 v:=by rw[hw3];exact hv2.alloc _
        have cO:=hv3.cell
        have fO:=hv3.frozen
        have HW3:=Lib.hid hw3
        clear hw3
        refine hK _ _ ?_
        clear hK KK
        try simp only[Act.put,pk1,pk2,pk3]
        refine wpAnyIn_ready (rs:= [4]) (by kernel_rfl) (by simp) ?_
        refine(AllReadyIn.cons (o:=⟨some 41,_,_,_,_,_⟩) rfl (fun KK hK=> ?_) AllReadyIn.nil)
        ·rw[if_pos (by rfl)]
         refine opIn_append_str (g:=w2.heap.size) (s:=RS) (w.heap.size+4) _ _ rfl v pre.length _ rfl (by rw[HW3.out];exact World.ownsRow.alloc hrow2 _) rfl (by rw[HW3.out];exact cell_one_new _ _ _) (by omega) (by rw[HW3.out];simp;omega) ?_
         intro v' w4 hown' hgrow
         rw[HW3.out]at hgrow
         obtain⟨g',cap',rfl⟩:=ownsRow_succ hown'
         obtain⟨hv4,hv5,hr4,hk4,hb4⟩:=hv2.appended (by decide) (own_mono hrow2 (Nat.le_add_right w.heap.size 4)) (by omega) (by omega) (own_mono hown' (Nat.le_add_right w.heap.size 4)) hgrow
         have hc4:=hv4.cell
         have hf4:=hv4.frozen
         refine hK _ _ ?_
         clear hK KK
         try simp only[Act.put,pk1,pk2,pk3]
         refine wpAnyIn_ready (rs:= [5]) (by kernel_rfl) (by simp) ?_
         refine(AllReadyIn.cons (o:=⟨none,_,_,_,_,_⟩) rfl (fun KK hK=> ?_) AllReadyIn.nil)
         ·go_simp
          refine hK _ _ ?_
          clear hK KK
          try simp only[Act.put,pk1,pk2,pk3]
          refine wpAnyIn_done (by kernel_rfl) ?_ _
          try simp only[Act.put,pk1,pk2,pk3]
          gi_wp2
          have hown5:=World.ownsRow.kept hown' (grownBy_setCell' w4 (w.heap.size+1) (.slice (some ⟨g',0,none⟩) (pre.length+1) cap')) (own_ne (fun k9 hk9=>by have:=(World.ownsRow.lt hown' k9 hk9).1;omega))
          refine⟨KeepsFrom.trans ⟨hBd2.size,fun k o _ hk _=>(hBd2.block k (Array.getElem?_eq_some_iff.1 hk).1).trans hk⟩ (hk4.from _),⟨Nat.le_trans hBd2.size hk4.size,fun k9 hk9 hne=> ?_⟩,⟨⟨_,hv5,?_,trivial⟩,(hB1.trans (hBd2.mono hsW)).trans hb4⟩,Nat.le_trans hq1 hk4.size⟩
          ·rw[(grownBy_setCell' w4 (w.heap.size+1) (.slice (some ⟨g',0,none⟩) (pre.length+1) cap')).block k9 (by have:=hgrow.size;simp at this;omega) (by intro e9;injection e9 with e9;exact hne e9),hgrow.block k9 (by simp;omega) (by intro e9;have:=(World.ownsRow.lt hrow2 k9 e9.symm).1;omega),heap_alloc_old _ _ (by omega)]
           exact hBd2.block k9 (by omega)
          ·have e9:strs (List.map (fun x:Row r=>rowS K l x.1) [⟨i,hir⟩])= [.string RS]:=by rw[←HRS2.out];rfl
           rw[List.length_append,List.map_append,strs_snoc',e9]
           exact hown5
    ·go_simp
     refine hK _ _ ?_
     clear hK KK
     try simp only[Act.put,pk1,pk2,pk3]
     refine wpAnyIn_ready (rs:= [0,2]) (by kernel_rfl) (by simp) ?_
     refine(AllReadyIn.cons (o:=⟨some 37,_,_,_,_,_⟩) rfl (fun KK hK=> ?_) (AllReadyIn.cons (o:=⟨some 39,_,_,_,_,_⟩) rfl (fun KK hK=> ?_) AllReadyIn.nil))
     ·go_simp
      refine hK _ _ ?_
      clear hK KK
      try simp only[Act.put,pk1,pk2,pk3]
      refine wpAnyIn_ready (rs:= [2]) (by kernel_rfl) (by simp) ?_
      refine(AllReadyIn.cons (o:=⟨some 39,_,_,_,_,_⟩) rfl (fun KK hK=> ?_) AllReadyIn.nil)
      ·go_simp
       refine⟨trivial,?_⟩
       gi_at_call 114
       refine(CallsIn.inRound lp (callsIn_wide.2 (HJ.out _ rfl))).mono ?_
       rintro e w2 ⟨rfl,hB2⟩
       have hv2:Boxed w2 (w.heap.size+1) 30 v:=(hB2.block _ hv.lt).trans hv
       have hrow2:=own_below hrow hB2 (Nat.le_refl _)
       have cO:=hv2.cell
       have fO:=hv2.frozen
       have hs2:=hB2.size
       have hBd2:=hBd.trans (hB2.mono hBd.size)
       have hq1:w.heap.size+4≤w2.heap.size:=Nat.le_trans hq4 hBd2.size
       refine hK _ _ ?_
       clear hK KK
       try simp only[Act.put,pk1,pk2,pk3]
       refine wpAnyIn_ready (rs:= [3]) (by kernel_rfl) (by simp) ?_
       refine(AllReadyIn.cons (o:=⟨some 40,_,_,_,_,_⟩) rfl (fun KK hK=> ?_) AllReadyIn.nil)
       ·go_simp
        obtain⟨w3,hw3⟩:∃w3,w3=w2.alloc (.cells #[.string RS] 9):=⟨_,rfl⟩
        rw[←hw3]
        have hv3:Boxed w3 (w.heap.size+1) 30 v:=by rw[hw3];exact hv2.alloc _
        have cO:=hv3.cell
        have fO:=hv3.frozen
        have HW3:=Lib.hid hw3
        clear hw3
        refine hK _ _ ?_
        clear hK KK
        try simp only[Act.put,pk1,pk2,pk3]
        refine wpAnyIn_ready (rs:= [4]) (by kernel_rfl) (by simp) ?_
        refine(AllReadyIn.cons (o:=⟨some 41,_,_,_,_,_⟩) rfl (fun KK hK=> ?_) AllReadyIn.nil)
        ·rw[if_pos (by rfl)]
         refine opIn_append_str (g:=w2.heap.size) (s:=RS) (w.heap.size+4) _ _ rfl v pre.length _ rfl (by rw[HW3.out];exact World.ownsRow.alloc hrow2 _) rfl (by rw[HW3.out];exact cell_one_new _ _ _) (by omega) (by rw[HW3.out];simp;omega) ?_
         intro v' w4 hown' hgrow
         rw[HW3.out]at hgrow
         obtain⟨g',cap',rfl⟩:=ownsRow_succ hown'
         obtain⟨hv4,hv5,hr4,hk4,hb4⟩:=hv2.appended (by decide) (own_mono hrow2 (Nat.le_add_right w.heap.size 4)) (by omega) (by omega) (own_mono hown' (Nat.le_add_right w.heap.size 4)) hgrow
         have hc4:=hv4.cell
         have hf4:=hv4.frozen
         refine hK _ _ ?_
         clear hK KK
         try simp only[Act.put,pk1,pk2,pk3]
         refine wpAnyIn_ready (rs:= [5]) (by kernel_rfl) (by simp) ?_
         refine(AllReadyIn.cons (o:=⟨none,_,_,_,_,_⟩) rfl (fun KK hK=> ?_) AllReadyIn.nil)
         ·go_simp
          refine hK _ _ ?_
          clear hK KK
          try simp only[Act.put,pk1,pk2,pk3]
          refine wpAnyIn_done (by kernel_rfl) ?_ _
          try simp only[Act.put,pk1,pk2,pk3]
          gi_wp2
          have hown5:=World.ownsRow.kept hown' (grownBy_setCell' w4 (w.heap.size+1) (.slice (some ⟨g',0,none⟩) (pre.length+1) cap')) (own_ne (fun k9 hk9=>by have:=(World.ownsRow.lt hown' k9 hk9).1;omega))
          refine⟨KeepsFrom.trans ⟨hBd2.size,fun k o _ hk _=>(hBd2.block k (Array.getElem?_eq_some_iff.1 hk).1).trans hk⟩ (hk4.from _),⟨Nat.le_trans hBd2.size hk4.size,fun k9 hk9 hne=> ?_⟩,⟨⟨_,hv5,?_,trivial⟩,(hB1.trans (hBd2.mono hsW)).trans hb4⟩,Nat.le_trans hq1 hk4.size⟩
          ·rw[(grownBy_setCell' w4 (w.heap.size+1) (.slice (some ⟨g',0,none⟩) (pre.length+1) cap')).block k9 (by have:=hgrow.size;simp at this;omega) (by intro e9;injection e9 with e9;exact hne e9),hgrow.block k9 (by simp;omega) (by intro e9;have:=(World.ownsRow.lt hrow2 k9 e9.symm).1;omega),heap_alloc_old _ _ (by omega)]
           exact hBd2.block k9 (by omega)
          ·have e9:strs (List.map (fun x:Row r=>rowS K l x.1) [⟨i,hir⟩])= [.string RS]:=by rw[←HRS2.out];rfl
           rw[List.length_append,List.map_append,strs_snoc',e9]
           exact hown5
     ·go_simp
      refine⟨trivial,?_⟩
      gi_at_call 114
      refine(CallsIn.inRound lp (callsIn_wide.2 (HJ.out _ rfl))).mono ?_
      rintro e w2 ⟨rfl,hB2⟩
      have hv2:Boxed w2 (w.heap.size+1) 30 v:=(hB2.block _ hv.lt).trans hv
      have hrow2:=own_below hrow hB2 (Nat.le_refl _)
      have cO:=hv2.cell
      have fO:=hv2.frozen
      have hs2:=hB2.size
      have hBd2:=hBd.trans (hB2.mono hBd.size)
      have hq1:w.heap.size+4≤w2.heap.size:=Nat.le_trans hq4 hBd2.size
      refine hK _ _ ?_
      clear hK KK
      try simp only[Act.put,pk1,pk2,pk3]
      refine wpAnyIn_ready (rs:= [0,3]) (by kernel_rfl) (by simp) ?_
      refine(AllReadyIn.cons (o:=⟨some 37,_,_,_,_,_⟩) rfl (fun KK hK=> ?_) (AllReadyIn.cons (o:=⟨some 40,_,_,_,_,_⟩) rfl (fun KK hK=> ?_) AllReadyIn.nil))
      ·go_simp
       refine hK _ _ ?_
       clear hK KK
       try simp only[Act.put,pk1,pk2,pk3]
       refine wpAnyIn_ready (rs:= [3]) (by kernel_rfl) (by simp) ?_
       refine(AllReadyIn.cons (o:=⟨some 40,_,_,_,_,_⟩) rfl (fun KK hK=> ?_) AllReadyIn.nil)
       ·go_simp
        obtain⟨w3,hw3⟩:∃w3,w3=w2.alloc (.cells #[.string RS] 9):=⟨_,rfl⟩
        rw[←hw3]
        have hv3:Boxed w3 (w.heap.size+1) 30 v:=by rw[hw3];exact hv2.alloc _
        have cO:=hv3.cell
        have fO:=hv3.frozen
        have HW3:=Lib.hid hw3
        clear hw3
        refine hK _ _ ?_
        clear hK KK
        try simp only[Act.put,pk1,pk2,pk3]
        refine wpAnyIn_ready (rs:= [4]) (by kernel_rfl) (by simp) ?_
        refine(AllReadyIn.cons (o:=⟨some 41,_,_,_,_,_⟩) rfl (fun KK hK=> ?_) AllReadyIn.nil)
        ·rw[if_pos (by rfl)]
         refine opIn_append_str (g:=w2.heap.size) (s:=RS) (w.heap.size+4) _ _ rfl v pre.length _ rfl (by rw[HW3.out];exact World.ownsRow.alloc hrow2 _) rfl (by rw[HW3.out];exact cell_one_new _ _ _) (by omega) (by rw[HW3.out];simp;omega) ?_
         intro v' w4 hown' hgrow
         rw[HW3.out]at hgrow
         obtain⟨g',cap',rfl⟩:=ownsRow_succ hown'
         obtain⟨hv4,hv5,hr4,hk4,hb4⟩:=hv2.appended (by decide) (own_mono hrow2 (Nat.le_add_right w.heap.size 4)) (by omega) (by omega) (own_mono hown' (Nat.le_add_right w.heap.size 4)) hgrow
         have hc4:=hv4.cell
         have hf4:=hv4.frozen
         refine hK _ _ ?_
         clear hK KK
         try simp only[Act.put,pk1,pk2,pk3]
         refine wpAnyIn_ready (rs:= [5]) (by kernel_rfl) (by simp) ?_
         refine(AllReadyIn.cons (o:=⟨none,_,_,_,_,_⟩) rfl (fun KK hK=> ?_) AllReadyIn.nil)
         ·go_simp
          refine hK _ _ ?_
          clear hK KK
          try simp only[Act.put,pk1,pk2,pk3]
          refine wpAnyIn_done (by kernel_rfl) ?_ _
          try simp only[Act.put,pk1,pk2,pk3]
          gi_wp2
          have hown5:=World.ownsRow.kept hown' (grownBy_setCell' w4 (w.heap.size+1) (.slice (some ⟨g',0,none⟩) (pre.length+1) cap')) (own_ne (fun k9 hk9=>by have:=(World.ownsRow.lt hown' k9 hk9).1;omega))
          refine⟨KeepsFrom.trans ⟨hBd2.size,fun k o _ hk _=>(hBd2.block k (Array.getElem?_eq_some_iff.1 hk).1).trans hk⟩ (hk4.from _),⟨Nat.le_trans hBd2.size hk4.size,fun k9 hk9 hne=> ?_⟩,⟨⟨_,hv5,?_,trivial⟩,(hB1.trans (hBd2.mono hsW)).trans hb4⟩,Nat.le_trans hq1 hk4.size⟩
          ·rw[(grownBy_setCell' w4 (w.heap.size+1) (.slice (some ⟨g',0,none⟩) (pre.length+1) cap')).block k9 (by have:=hgrow.size;simp at this;omega) (by intro e9;injection e9 with e9;exact hne e9),hgrow.block k9 (by simp;omega) (by intro e9;have:=(World.ownsRow.lt hrow2 k9 e9.symm).1;omega),heap_alloc_old _ _ (by omega)]
           exact hBd2.block k9 (by omega)
          ·have e9:strs (List.map (fun x:Row r=>rowS K l x.1) [⟨i,hir⟩])= [.string RS]:=by rw[←HRS2.out];rfl
           rw[List.length_append,List.map_append,strs_snoc',e9]
           exact hown5
      ·go_simp
       obtain⟨w3,hw3⟩:∃w3,w3=w2.alloc (.cells #[.string RS] 9):=⟨_,rfl⟩
       rw[←hw3]
       have hv3:Boxed w3 (w.heap.size+1) 30 v:=by rw[hw3];exact hv2.alloc _
       have cO:=hv3.cell
       have fO:=hv3.frozen
       have HW3:=Lib.hid hw3
       clear hw3
       refine hK _ _ ?_
       clear hK KK
       try simp only[Act.put,pk1,pk2,pk3]
       refine wpAnyIn_ready (rs:= [0]) (by kernel_rfl) (by simp) ?_
       refine(AllReadyIn.cons (o:=⟨some 37,_,_,_,_,_⟩) rfl (fun KK hK=> ?_) AllReadyIn.nil)
       ·go_simp
        refine hK _ _ ?_
        clear hK KK
        try simp only[Act.put,pk1,pk2,pk3]
        refine wpAnyIn_ready (rs:= [4]) (by kernel_rfl) (by simp) ?_
        refine(AllReadyIn.cons (o:=⟨some 41,_,_,_,_,_⟩) rfl (fun KK hK=> ?_) AllReadyIn.nil)
        ·rw[if_pos (by rfl)]
         refine opIn_append_str (g:=w2.heap.size) (s:=RS) (w.heap.size+4) _ _ rfl v pre.length _ rfl (by rw[HW3.out];exact World.ownsRow.alloc hrow2 _) rfl (by rw[HW3.out];exact cell_one_new _ _ _) (by omega) (by rw[HW3.out];simp;omega) ?_
         intro v' w4 hown' hgrow
         rw[HW3.out]at hgrow
         obtain⟨g',cap',rfl⟩:=ownsRow_succ hown'
         obtain⟨hv4,hv5,hr4,hk4,hb4⟩:=hv2.appended (by decide) (own_mono hrow2 (Nat.le_add_right w.heap.size 4)) (by omega) (by omega) (own_mono hown' (Nat.le_add_right w.heap.size 4)) hgrow
         have hc4:=hv4.cell
         have hf4:=hv4.frozen
         refine hK _ _ ?_
         clear hK KK
         try simp only[Act.put,pk1,pk2,pk3]
         refine wpAnyIn_ready (rs:= [5]) (by kernel_rfl) (by simp) ?_
         refine(AllReadyIn.cons (o:=⟨none,_,_,_,_,_⟩) rfl (fun KK hK=> ?_) AllReadyIn.nil)
         ·go_simp
          refine hK _ _ ?_
          clear hK KK
          try simp only[Act.put,pk1,pk2,pk3]
          refine wpAnyIn_done (by kernel_rfl) ?_ _
          try simp only[Act.put,pk1,pk2,pk3]
          gi_wp2
          have hown5:=World.ownsRow.kept hown' (grownBy_setCell' w4 (w.heap.size+1) (.slice (some ⟨g',0,none⟩) (pre.length+1) cap')) (own_ne (fun k9 hk9=>by have:=(World.ownsRow.lt hown' k9 hk9).1;omega))
          refine⟨KeepsFrom.trans ⟨hBd2.size,fun k o _ hk _=>(hBd2.block k (Array.getElem?_eq_some_iff.1 hk).1).trans hk⟩ (hk4.from _),⟨Nat.le_trans hBd2.size hk4.size,fun k9 hk9 hne=> ?_⟩,⟨⟨_,hv5,?_,trivial⟩,(hB1.trans (hBd2.mono hsW)).trans hb4⟩,Nat.le_trans hq1 hk4.size⟩
          ·rw[(grownBy_setCell' w4 (w.heap.size+1) (.slice (some ⟨g',0,none⟩) (pre.length+1) cap')).block k9 (by have:=hgrow.size;simp at this;omega) (by intro e9;injection e9 with e9;exact hne e9),hgrow.block k9 (by simp;omega) (by intro e9;have:=(World.ownsRow.lt hrow2 k9 e9.symm).1;omega),heap_alloc_old _ _ (by omega)]
           exact hBd2.block k9 (by omega)
          ·have e9:strs (List.map (fun x:Row r=>rowS K l x.1) [⟨i,hir⟩])= [.string RS]:=by rw[←HRS2.out];rfl
           rw[List.length_append,List.map_append,strs_snoc',e9]
           exact hown5
 case done=>
  rintro D ys W hD rfl ⟨⟨⟨v,hv,hrow,_⟩,hB1⟩,hq4⟩ hK
  have hrr:r≤400:=by
   have:=Nat.le_mul_of_pos_right r hc1
   omega
  rw[upto_len r (Nat.le_refl _)]at hrow
  obtain⟨ss,hss⟩:∃ss,(upto r r).map (fun x=>rowS c l x.1)=ss:=⟨_,rfl⟩
  have hsl:ss.length=r:=by rw[←hss,List.length_map,upto_len r (Nat.le_refl _)]
  have hsr:ss=(List.range r).map (rowS c l):=by rw[←hss];exact upto_map r c l
  rw[hss]at hrow
  have hsz:∀s∈ss,s.size≤300000:=by
   intro s hs
   rw[hsr]at hs
   obtain⟨i,_,rfl⟩:=List.mem_map.1 hs
   show(rowT c l i).length≤300000
   have h1:=join_len [44] 500 (((l.drop (i*c)).take c).map cellL) (fun x hx=>by
    obtain⟨y,hy,rfl⟩:=List.mem_map.1 hx
    exact cellL_len (hpl y (List.mem_of_mem_drop (List.mem_of_mem_take hy))))
   rw[List.length_map,List.length_take]at h1
   unfold rowT
   have:min c (l.drop (i*c)).length*(500+ [(44:UInt8)].length)≤400*501:=Nat.mul_le_mul (by omega) (Nat.le_refl _)
   omega
  have HJ:=Lib.hid (show Calls Tryz.prog 114 #[v,.string ⟨#[59]⟩] W (Gives (.string ⟨(Lib.join (ss.map (·.data.toList)) [59]).toArray⟩) W)from joinS_any (w.heap.size+4) v ss ⟨#[59]⟩ W (by rw[hsl];exact hrow) (by intro e;rw[e]at hsl;simp at hsl;omega) (by omega) hsz (by decide))
  have HA:Hid ((⟨#[123]⟩:ByteArray)++⟨(Lib.join (ss.map (·.data.toList)) [59]).toArray⟩++⟨#[125]⟩=mk (arrL (arrV r c l))):=Lib.hid (by
   rw[hAL,hsr,List.map_map]
   apply ByteArray.ext
   simp[ByteArray.data_append,mk]
   rfl)
  obtain⟨J,hJ⟩:∃J:ByteArray,⟨(Lib.join (ss.map (·.data.toList)) [59]).toArray⟩=J:=⟨_,rfl⟩
  have hJs:J.size≤140000000:=by
   rw[←hJ]
   have h1:=join_len [59] 300000 (ss.map (·.data.toList)) (fun x hx=>by
    obtain⟨s,hs,rfl⟩:=List.mem_map.1 hx
    have:=hsz s hs
    rw[Lib.size_eq]at this
    exact this)
   rw[List.length_map]at h1
   have:ss.length*(300000+ [(59:UInt8)].length)≤400*300001:=Nat.mul_le_mul (by omega) (Nat.le_refl _)
   show(Lib.join (ss.map (·.data.toList)) [59]).length≤140000000
   omega
  rw[hJ]at HJ HA
  have cO:=hv.cell
  have hsW:=hB1.size
  clear hss hsr hsz hJ hAL hlk hpl
  gi_wp2_with (refine⟨trivial,?_⟩;gi_at_call 114;refine(callsIn_wide.2 HJ.out).mono ?_;rintro e w2 ⟨rfl,hB2⟩)
  have hDl:=(Array.getElem?_eq_some_iff.1 hK).1
  have hK2:w2.heap[D]? =some (.deferred (some [])):=(hB2.block D hDl).trans hK
  have hB3:=hB1.trans (hB2.mono hsW)
  refine⟨by simp,.inl ⟨_,_,rfl,run_takeDeferred hK2,?_⟩⟩
  exact⟨_,results_tmp rfl _ _ _,by rw[←HA.out];rfl,hB3.trans (belowK_b (w:=w) (Nat.le_refl _) w2 D _ _ (by omega) hK2 rfl rfl)⟩
 case stop=>
  rintro D c pre W _ _ h _
  exact h.elim
end Go.Proofs.YtkhohjdakcchdaaGreatDoor
