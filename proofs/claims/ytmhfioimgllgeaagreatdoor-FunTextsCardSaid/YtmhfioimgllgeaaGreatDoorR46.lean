/- Merged: Whl, Rou, Sgs, Tx1, Mid, Txa. -/
import Derived.Test.YtmhfioimgllgeaaGreatDoorR01
import Derived.Test.YtmhfioimgllgeaaGreatDoorR43
import Derived.Test.YtmhfioimgllgeaaGreatDoorR37
import Derived.Test.YtmhfioimgllgeaaGreatDoorR39
namespace Go.Proofs.YtmhfioimgllgeaaGreatDoor
open Go Go.RowKit Go.Shelf
theorem floorD_bd (M E:Int): -1000000000000000≤(floorD M E).1∧(floorD M E).1≤1000000000000000:=by
 unfold floorD
 split
 ·unfold floorR
  split
  ·rename_i h
   have h:=q15 h
   split<;>simp only<;>omega
  ·simp
 ·simp
def whN (x:Vl):Int:=(floorD x.m x.e).1
def whB (x:Vl):Bool:=x.k==1&&((floorD x.m x.e).2==0&&((ofD (whN x)).2==0&&((ofD (whN x)).1.1==x.m&&(ofD (whN x)).1.2==x.e)))
def whR (x:Vl) (lo hi:Int):Bool:=whB x&&(decide (lo≤whN x)&&decide (whN x≤hi))
def WholePost (x:Vl) (lo hi:Int) (w:World) (e:Ending) (w':World):Prop:=e= .returned (.tuple #[.int .i64 (whN x),.bool (whR x lo hi)])∧Below w.heap.size w w'
set_option maxRecDepth 100000 in
set_option maxHeartbeats 8000000 in
theorem wholeF_any (x:Vl) (lo hi:Int) (C:Array Value) (w:World) (h0:C[0]? =some (.int .i64 x.k)) (h1:C[1]? =some (.int .i64 x.m)) (h2:C[2]? =some (.int .i64 x.e)) (hO:OneC C) (hb: -9223372036854775808≤x.m∧x.m≤9223372036854775807):Calls Tryz.prog 128 #[.agg C,.int .i64 lo,.int .i64 hi] w (WholePost x lo hi w):=by
 have hv0:World.vb (w.alloc (.cells C 39)) w.heap.size C:=World.vb_new w C
 have hB0:Below w.heap.size w (w.alloc (.cells C 39)):=(Below.refl _ w).alloc (Nat.le_refl _) _
 have HF:=Lib.hid (fun W=>floor_any x.m x.e W hb.1 hb.2)
 have hfb:=floorD_bd x.m x.e
 have HD:=Lib.hid (fun W=>of_n (floorD x.m x.e).1 W (by omega) (by omega))
 have hdc:∀W,World.vb W w.heap.size C→∀(j:Nat) (u:Value),(#[.int .i64 x.m,.int .i64 x.e]:Array Value)[j]? =some u→W.cell? ⟨w.heap.size,1+j,none⟩=some u:=by
  intro W hW j u hj
  match j,hj with
  |0,hj=>rw[←hj];exact hW.cell h1
  |1,hj=>rw[←hj];exact hW.cell h2
  |j+2,hj=>simp at hj
 have HDC:=Lib.hid hdc
 unfold WholePost whR whB whN
 obtain⟨R,hR⟩:∃R,R=floorD x.m x.e:=⟨_,rfl⟩
 rw[←hR]at HF HD⊢
 obtain⟨n,e1⟩:=R
 obtain⟨P,hP⟩:∃P,P=ofD n:=⟨_,rfl⟩
 simp only at HD⊢
 rw[←hP]at HD⊢
 obtain⟨⟨M,E⟩,e2⟩:=P
 simp only at⊢
 have hcl:C.all (·.oneCell')=true:=hO.2
 clear hdc hR hP hfb
 obtain⟨K,k0⟩:∃k,k=x.k:=⟨_,rfl⟩
 obtain⟨XM,xm⟩:∃k,k=x.m:=⟨_,rfl⟩
 obtain⟨XE,xe⟩:∃k,k=x.e:=⟨_,rfl⟩
 rw[←k0]at h0⊢
 rw[←xm]at h1 HF HDC⊢
 rw[←xe]at h2 HF HDC⊢
 have H0:=Lib.hid h0
 have H1:=Lib.hid h1
 have H2:=Lib.hid h2
 clear k0 xm xe h0 h1 h2 hO hb
 go_enter Tryz.func128,Tryz.ntmps128
 go_upto_region 3 with (first|refine wpList_loadDat rfl rfl rfl rfl (HDC.out _ hv0) ?_|(go_at_call 26;refine(HF.out _).mono ?_;rintro e w1 ⟨rfl,hB1⟩;have hv1:=hv0.below hB1 hv0.lt;have hB:=hB0.trans (hB1.mono hB0.size))|(go_at_call 237;refine(HD.out _).mono ?_;rintro e w2 ⟨rfl,hB2⟩;have hv2:=hv1.below hB2 hv1.lt;have hB:=hB.trans (hB2.mono hB.size))|(refine wpList_storeD rfl rfl rfl rfl (World.dec_new _ _ _ _ rfl) ?_;intro w3 hn3 hg3 hz3))
 have hvx:World.vb w3 w.heap.size C:=vb_but (hv2.alloc _) hg3 (by have:=hv2.lt;omega)
 have hB3:Below w.heap.size w w3:=(hB.alloc hB.size _).grown hg3 (by have:=hB.size;simp;omega) (fun k hk=>by cases hk;exact hB.size)
 have c0:=hvx.cell H0.out
 have c1:=hvx.cell H1.out
 have c2:=hvx.cell H2.out
 have d0:=hn3.c0
 have d1:=hn3.c1
 have HB3:=Lib.hid hB3
 clear hn3 hg3 hz3 hv2 hv1 hv0 hB0 hB hB1 hB2 hB3 hcl HDC HF HD H0 H1 H2 hvx
 go_upto_region 3 with fail
 cases b0:(K==1)
 ·go_wp2_with fail
  refine bodyPost_ret (results_tmp2 rfl _ _ _) rfl ?_
  exact⟨by first|(simp only[];rfl)|simp only[b0,Bool.and_false,Bool.false_and,Bool.and_true,Bool.true_and],HB3.out⟩
 ·cases b1:(e1==0)
  ·go_wp2_with fail
   refine bodyPost_ret (results_tmp2 rfl _ _ _) rfl ?_
   exact⟨by first|(simp only[];rfl)|simp only[b0,b1,Bool.and_false,Bool.false_and,Bool.and_true,Bool.true_and],HB3.out⟩
  ·cases b2:(e2==0)
   ·go_wp2_with fail
    refine bodyPost_ret (results_tmp2 rfl _ _ _) rfl ?_
    exact⟨by first|(simp only[];rfl)|simp only[b0,b1,b2,Bool.and_false,Bool.false_and,Bool.and_true,Bool.true_and],HB3.out⟩
   ·cases b3:(M==XM)
    ·go_wp2_with fail
     refine bodyPost_ret (results_tmp2 rfl _ _ _) rfl ?_
     exact⟨by first|(simp only[];rfl)|simp only[b0,b1,b2,b3,Bool.and_false,Bool.false_and,Bool.and_true,Bool.true_and],HB3.out⟩
    ·cases b4:(E==XE)
     ·go_wp2_with fail
      refine bodyPost_ret (results_tmp2 rfl _ _ _) rfl ?_
      exact⟨by first|(simp only[];rfl)|simp only[b0,b1,b2,b3,b4,Bool.and_false,Bool.false_and,Bool.and_true,Bool.true_and],HB3.out⟩
     ·cases b5:decide (lo≤n)
      ·go_wp2_with fail
       refine bodyPost_ret (results_tmp2 rfl _ _ _) rfl ?_
       exact⟨by first|(simp only[];rfl)|simp only[b0,b1,b2,b3,b4,b5,Bool.and_false,Bool.false_and,Bool.and_true,Bool.true_and],HB3.out⟩
      ·cases b6:decide (n≤hi)
       ·go_wp2_with fail
        refine bodyPost_ret (results_tmp2 rfl _ _ _) rfl ?_
        exact⟨by first|(simp only[];rfl)|simp only[b0,b1,b2,b3,b4,b5,b6,Bool.and_false,Bool.false_and,Bool.and_true,Bool.true_and],HB3.out⟩
       ·go_wp2_with fail
        refine bodyPost_ret (results_tmp2 rfl _ _ _) rfl ?_
        exact⟨by first|(simp only[];rfl)|simp only[b0,b1,b2,b3,b4,b5,b6,Bool.and_false,Bool.false_and,Bool.and_true,Bool.true_and],HB3.out⟩
end Go.Proofs.YtmhfioimgllgeaaGreatDoor
namespace Go.Proofs.YtmhfioimgllgeaaGreatDoor
open Go Go.RowKit Go.Shelf
/-- Behind an append the slice that was appended to has what it had. -/
theorem run_append_keep {P:Program} (w:World) (base:Nat) (t ty e:TypeId) (i:TypeInfo) (z:Value) (size bytes:Nat) (ht:P.underlying t=some (.slice e)) (hi:P.info? e=some i) (hz:i.zero=some z)
 (hsize:i.size=size) (hby:i.bytes=bytes) (hzs:z.cells.size=size) (hsz:0<size)
 (v:Value) (n:Nat) (xs:List Value) (hown:w.ownsRow base e size v n xs)
 (a:Addr) (m c:Nat) (news:List Value) (hl:news.length=m*size) (hnews:∀j u,news[j]? =some u→w.cell? (a.add j)=some u) (h1:∀u∈news,u.oneCell'=true)
 (h63:n+m≤maxLen) (hbytes:(n+m)*bytes≤140737488355328) (hbase:base≤w.heap.size):
 ∃v' w',(Builtin.append_ #[t,t] ty #[v,.slice (some a) m c]).run P w= .ok v' w'∧w'.ownsRow base e size v' (n+m) (xs++news)∧w.grownBy w' v.ownBlock∧w'.ownsRow base e size v n xs:=by
 obtain⟨v',w',hr,h2,h3,_⟩:=run_append_own (P:=P) w base t ty e i z size bytes ht hi hz hsize hby hzs hsz v n xs hown a m c news hl hnews h1 h63 hbytes hbase
 refine⟨v',w',hr,h2,h3,hown.1,?_⟩
 subst hsize
 subst hby
 have hsmall:n+m≤9223372036854775807:=by simp only[maxLen]at h63;omega
 rcases hown.2 with ⟨rfl,rfl⟩|⟨g,cap,cur,rfl,hbg,hg,hnc,hcm,hcs,htake⟩
 ·exact .inl ⟨rfl,rfl⟩
 ·right
  by_cases hroom:n+m≤cap
  ·have hfit:n*i.size+news.length≤cur.size:=by rw[hl,hcs,←Nat.add_mul];exact Nat.mul_le_mul_right _ hroom
   have hr2:=run_append_room (P:=P) w t ty e i ht hi g n cap cur hg a m c news hl hnews h1 hroom hfit
   rw[hr]at hr2
   injection hr2 with _ hw
   subst hw
   refine⟨g,cap,_,rfl,hbg,setRow_heap w g cur _ e _ hg,hnc,hcm,?_,?_⟩
   ·simp only[List.size_toArray,List.length_append,List.length_take,List.length_drop,Array.length_toList]
    omega
   ·rw[htake]
    rw[List.append_assoc]
    have e1:xs.length=n*i.size:=hown.1
    rw[←e1]
    exact List.take_left
  ·have holds:∀j u,xs[j]? =some u→w.cell? ((⟨g,0,none⟩:Addr).add j)=some u:=hown.cells (g:=g) rfl
   have hr2:=run_append_grow (P:=P) w t ty e i z ht hi hz ⟨g,0,none⟩ n cap xs hown.1 holds a m c news hl hnews (by omega) (by omega) (growslice_fits (by omega) hbytes)
   rw[hr]at hr2
   injection hr2 with _ hw
   subst hw
   exact⟨g,cap,cur,rfl,hbg,by rw[heap_alloc_old _ _ (show g<w.drew.heap.size from(Array.getElem?_eq_some_iff.1 hg).1)];exact hg,hnc,hcm,hcs,htake⟩
section
variable {ops : Array Oper} {rest : List Oper} {o : Oper} {a : Act} {w : World} {Q : Exit → Act → World → Prop}
theorem wpList_pushDk {s x:Operand} (hgd:o.guard=none) (ho:o.op= .call {callee:= .builtin .append,args:= #[s,x],argTypes:= #[156,156]})
 {base:Nat} {v:Value} {l:List (Int×Int)} {M E:Int} {g:Nat} (hown:World.dcr w base v l) (hl:l.length≤20000) (hs:a.eval s=v) (hx:a.eval x= .slice (some ⟨g,0,none⟩) 1 1) (hc:World.dec w g M E) (hbase:base≤w.heap.size)
 (h:∀v' w',World.dcr w' base v' (l++ [(M,E)])→w.grownBy w' v.ownBlock→World.dcr w' base v l→wpList Tryz.prog ops Q rest (a.put o.dst v') w'):wpList Tryz.prog ops Q (o :: rest) a w:=
 wpList_plain hgd fun K hK=>by
  obtain⟨i0,hi,hz0,hz1,hz2⟩:=info_parts info34f
  obtain⟨v',w',hr,h1,h2,h3⟩:=run_append_keep (P:=Tryz.prog) w base 156 o.type 34 i0 _ 2 16 Tryz.underlying156 hi hz0 hz1 hz2 rfl (by decide) v l.length _ hown ⟨g,0,none⟩ 1 1 [.int .i64 M,.int .i64 E] rfl (by
   intro j u hj
   rw[add_at,Nat.zero_add]
   unfold World.dec at hc
   rw[cell_of_row w g j _ _ _ hc]
   simpa using hj) (by
   intro u hu
   simp only[List.mem_cons,List.not_mem_nil,or_false]at hu
   rcases hu with rfl|rfl<;>rfl) (by unfold maxLen;omega) (by omega) hbase
  unfold Oper.wp execOp
  simp only[ho,resolve,invoke,builtin,Sem.run_bind,Sem.run_pure,Result.andThen_ok,List.map_toArray,List.map_cons,List.map_nil,hs,hx,hr]
  refine hK _ _ (h v' w' ?_ h2 h3)
  unfold World.dcr
  have e:dsC (l++ [(M,E)])=dsC l++ [.int .i64 M,.int .i64 E]:=by simp[dsC]
  rw[e,List.length_append]
  exact h1
end
/-- ROUND at a number and its places. -/
def rdV (p q:Int×Int):Vl:=if whR (numV q) (-9) 9=true then toldV (roundD p.1 p.2 (whN (numV q))).1 (roundD p.1 p.2 (whN (numV q))).2 else errV 6
def roundV (l:List (Int×Int)):Vl:=rdV (l.getD 0 (0,0)) ((l++ [(0,0)]).getD 1 (0,0))
set_option maxRecDepth 100000 in
set_option maxHeartbeats 8000000 in
/-- ROUND: its own slice of numbers may grow in place: what lies below 'B' stays. -/
theorem round_any127 (l:List (Int×Int)) (hl0:l≠ []) (hl:l.length≤2) (hr:∀p∈l,RightP p) (base:Nat) (v:Value) (w:World) (hd:World.dcr w base v l) (hb:base≤w.heap.size):Calls Tryz.prog 127 #[v] w (fun e w'=>e= .returned (.agg (pcs (roundV l)))∧Below base w w'):=by
 have hB0:Below base w (w.alloc (.cells vz 39)):=(Below.refl _ w).alloc hb _
 have hv0:World.vb (w.alloc (.cells vz 39)) w.heap.size vz:=World.vb_new w vz
 obtain⟨pp,cc,rfl,hpp⟩:=dcr_slice hd
 obtain⟨g,rfl⟩:=hpp hl0
 obtain⟨p,hp⟩:∃p,l[0]? =some p:=⟨_,List.getElem?_eq_getElem (List.length_pos_iff.2 hl0)⟩
 have hN1:1<(l++ [((0:Int),(0:Int))]).length:=by have:=List.length_pos_iff.2 hl0;simp;omega
 obtain⟨q,hq⟩:∃q,(l++ [((0:Int),(0:Int))])[1]? =some q:=⟨_,List.getElem?_eq_getElem hN1⟩
 have hrp:=hr p (List.mem_of_getElem? hp)
 have hrq:RightP q:=by
  rcases List.mem_append.1 (List.mem_of_getElem? hq)with h|h
  ·exact hr q h
  ·rw[List.mem_singleton.1 h];exact right_nought
 have HEQ:Hid (roundV l=rdV p q):=Lib.hid (by unfold roundV;rw[List.getD_eq_getElem?_getD,hp,List.getD_eq_getElem?_getD,hq];rfl)
 have hbg:=World.ownsRow.lt hd g rfl
 have hd1:=hd.below ((Below.refl _ w).alloc (Nat.le_refl _) (.cells vz 39))
 have HD1:=Lib.hid (show World.dcr ((w.alloc (.cells vz 39)).alloc (.cells #[.int .i64 0,.int .i64 0] 34)) base _ l from hd1.below ((Below.refl _ _).alloc (Nat.le_refl _) _))
 have hB1:=hB0.alloc (by simp;omega) (.cells #[.int .i64 0,.int .i64 0] 34)
 have hv1:=hv0.alloc (.cells #[.int .i64 0,.int .i64 0] 34)
 have HLL:Hid (l.length≤20000):=Lib.hid (by omega)
 have hN0:(0:Int)<(l.length:Int):=by have:=List.length_pos_iff.2 hl0;omega
 have HP:=Lib.hid hp
 have HWH:=Lib.hid (fun W=>wholeF_any (numV q) (-9) 9 (pcs (numV q)) W rfl rfl rfl (pcs_one _) (by have:=hrq.1;have:=hrq.2.1;show -9223372036854775808≤q.1∧q.1≤_;omega))
 have HRO:=Lib.hid (fun n W=>round_any p.1 p.2 n W (by have:=hrp.1;omega) (by have:=hrp.2.1;omega))
 have HTO:=Lib.hid told_any
 unfold WholePost at HWH
 unfold rdV at HEQ
 obtain⟨n,hn⟩:∃n,n=whN (numV q):=⟨_,rfl⟩
 obtain⟨l2,hl2⟩:∃l2,l2=l++ [((0:Int),(0:Int))]:=⟨_,rfl⟩
 rw[←hl2]at hN1 hq
 rw[←hn]at HWH HEQ
 have hN1I:(1:Int)<(l2.length:Int):=by omega
 have HQ:=Lib.hid hq
 have HL2:=Lib.hid hl2
 have hl2n:l2≠ []:=by intro e;rw[e]at hN1;simp at hN1
 obtain⟨⟨pm,pe⟩,hpe⟩:∃x,x=p:=⟨_,rfl⟩
 obtain⟨⟨qm,qe⟩,hqe⟩:∃x,x=q:=⟨_,rfl⟩
 subst hpe hqe
 clear hd hd1 hv0 hB0 hq hl2 hrp hrq hr hl hp hl0 hn hpp
 obtain⟨ok,hok⟩:∃b,b=whR (numV (qm,qe)) (-9) 9:=⟨_,rfl⟩
 rw[←hok]at HWH HEQ
 clear hok
 have HOB:Hid (Value.ownBlock (.slice (some ⟨g,0,none⟩) l.length cc)=some g):=Lib.hid rfl
 cases ok
 all_goals
  go_enter Tryz.func127,Tryz.ntmps127
  go_wp2_with (first|refine wpList_alloc34 rfl rfl ?_|refine wpList_bslD rfl rfl rfl ?_|(refine wpList_pushDk rfl rfl HD1.out HLL.out rfl rfl (World.dec_new _ 0 0 _ rfl) (by simp;omega) ?_;intro v8 w8 hr8 hg8 hk8;rw[HOB.out]at hg8;rw[←HL2.out]at hr8;obtain⟨p8,c8,rfl,hp8⟩:=dcr_slice hr8;obtain⟨g8,rfl⟩:=hp8 hl2n;have hB8:=hB1.grown hg8 (by simp;omega) (fun k hk=>by cases hk;exact hbg.1);have hvy:=hv1.grown hg8 (by intro e;injection e with e;omega);have hcq:=dcr_cells hr8 HQ.out)|refine wpList_loadDat rfl rfl rfl rfl hcq ?_|(go_at_call 119;refine(num_any qm qe _).mono ?_;rintro e w9 ⟨rfl,hB9⟩;clear hcq;have hvy:=hvy.below hB9 hvy.lt;have hB9a:=hB8.trans (hB9.mono (by have:=hB8.size;omega));have hk9:=hk8.below hB9)|(go_at_call 128;refine(HWH.out _).mono ?_;rintro e w10 ⟨rfl,hB10⟩;have hvy:=hvy.below hB10 hvy.lt;have hB10a:=hB9a.trans (hB10.mono (by have:=hB9a.size;omega));have hk10:=hk9.below hB10;have hcp:=dcr_cells hk10 HP.out)|refine wpList_loadDat rfl rfl rfl rfl hcp ?_|(go_at_call 33;refine(HRO.out n _).mono ?_;rintro e w11 ⟨rfl,hB11⟩;clear hcp;have hvy:=hvy.below hB11 hvy.lt;have hB11a:=hB10a.trans (hB11.mono (by have:=hB10a.size;omega)))|(go_at_call 129;refine(HTO.out _ _ _).mono ?_;rintro e w12 ⟨rfl,hB12⟩;have hvy:=hvy.below hB12 hvy.lt;have hB12a:=hB11a.trans (hB12.mono (by have:=hB11a.size;omega)))|(go_at_call 44;refine(fault_any 6 _).mono ?_;rintro e w12 ⟨rfl,hB12⟩;have hvy:=hvy.below hB12 hvy.lt;have hB12a:=hB10a.trans (hB12.mono (by have:=hB10a.size;omega)))|(refine wpList_store34 rfl rfl rfl rfl hvy (by rfl) (pcs_one _) ?_;intro w13 hn13 hg13 hz13))
  refine bodyPost_ret (results_cell_row rfl _ _ _ 39 _ (0,0) _ rfl hn13 Tryz.underlying39 rfl info34) rfl ?_
  exact⟨by rw[HEQ.out];rfl,hB12a.grown hg13 (by have:=hB12a.size;omega) (fun k9 hk9=>by cases hk9;omega)⟩
end Go.Proofs.YtmhfioimgllgeaaGreatDoor
namespace Go.Proofs.YtmhfioimgllgeaaGreatDoor
open Go Go.RowKit Go.Shelf Go.Lib
def wid (l:List UInt8):Nat:=if sgnL l=0 then 1 else sgnL l
theorem wid_le {l:List UInt8} (h:l≠ []):1≤wid l∧wid l≤l.length:=by
 have h1:=sgnL_le l
 have h2:=List.length_pos_iff.2 h
 unfold wid
 split<;>omega
def sgsF :Nat→List UInt8→List (List UInt8)
 |0,_=> []
 |n+1,l=>if l= []then []else l.take (wid l) :: sgsF n (l.drop (wid l))
def sgs (l:List UInt8):List (List UInt8):=sgsF l.length l
theorem sgsF_fuel :∀(n m:Nat) (l:List UInt8),l.length≤n→l.length≤m→sgsF n l=sgsF m l
 |0,0,_,_,_=>rfl
 |0,m+1,l,h,_=>by
  have:l= []:=List.eq_nil_of_length_eq_zero (by omega)
  subst this;rfl
 |n+1,0,l,_,h=>by
  have:l= []:=List.eq_nil_of_length_eq_zero (by omega)
  subst this;rfl
 |n+1,m+1,l,h1,h2=>by
  rw[sgsF,sgsF]
  split
  ·rfl
  ·rename_i hl
   have:=wid_le hl
   rw[sgsF_fuel n m (l.drop (wid l)) (by rw[List.length_drop];omega) (by rw[List.length_drop];omega)]
theorem sgs_nil :sgs []= []:=rfl
theorem sgs_cons {l:List UInt8} (h:l≠ []):sgs l=l.take (wid l) :: sgs (l.drop (wid l)):=by
 have h2:=List.length_pos_iff.2 h
 have h3:=wid_le h
 unfold sgs
 rw[sgsF_fuel l.length (l.length-1+1) l (Nat.le_refl _) (by omega),sgsF,if_neg h,sgsF_fuel (l.length-1) (l.drop (wid l)).length _ (by rw[List.length_drop];omega) (Nat.le_refl _)]
theorem sgs_flat :∀(n:Nat) (l:List UInt8),l.length≤n→(sgs l).flatten=l
 |0,l,h=>by
  have:l= []:=List.eq_nil_of_length_eq_zero (by omega)
  subst this;rfl
 |n+1,l,h=>by
  by_cases hl:l= []
  ·subst hl;rfl
  ·have:=wid_le hl
   rw[sgs_cons hl,List.flatten_cons,sgs_flat n _ (by rw[List.length_drop];omega),List.take_append_drop]
theorem sgs_len :∀(n:Nat) (l:List UInt8),l.length≤n→(sgs l).length≤l.length
 |0,l,h=>by
  have:l= []:=List.eq_nil_of_length_eq_zero (by omega)
  subst this;simp[sgs_nil]
 |n+1,l,h=>by
  by_cases hl:l= []
  ·subst hl;simp[sgs_nil]
  ·have:=wid_le hl
   have h2:=sgs_len n (l.drop (wid l)) (by rw[List.length_drop];omega)
   rw[List.length_drop]at h2
   rw[sgs_cons hl,List.length_cons]
   omega
theorem go_wid {s:ByteArray} (h:s.data.toList≠ []):(decodeGo s).2=wid s.data.toList:=by
 have h2:s.size≠0:=by rw[Lib.size_eq];exact fun e=>h (List.eq_nil_of_length_eq_zero e)
 have e:decodeGo s=decodeL s.data.toList:=by
  unfold decodeGo decodeL
  rw[if_neg h2]
 rw[e]
 unfold wid
 rcases sgnL_decode s.data.toList h with ⟨h1,h2⟩|⟨h1,_,h2⟩|⟨h1,_,h2,_⟩
 ·rw[h2,if_pos h1]
 ·rw[h2,if_neg (by omega),h1]
 ·rw[h2,if_neg (by omega)]
def World.sr (w:World) (base:Nat) (v:Value) (l:List ByteArray):Prop:=w.ownsRow base 9 1 v l.length (l.map Value.string)
section
variable {w w' : World} {base : Nat} {v : Value} {l : List ByteArray}
theorem World.sr.below (h:World.sr w base v l) (hb:Below w.heap.size w w'):World.sr w' base v l:=
 World.ownsRow.kept (row:=none) h ⟨hb.os,hb.tape,hb.output,hb.size,fun k hk _=>hb.block k hk⟩ (by
  cases h:v.ownBlock with
  |none=>exact .inl rfl
  |some k=>exact .inr (by intro e;cases e))
theorem World.sr.alloc (h:World.sr w base v l) (o:Obj):World.sr (w.alloc o) base v l:=World.ownsRow.alloc h o
theorem World.sr_nil :World.sr w base nilS []:=World.ownsRow_nil _ _ _ _
theorem World.sr.shape2 (h:World.sr w base v l):∃p n c,v= .slice p n c:=by
 rcases h.2 with ⟨rfl,e⟩|⟨g,cap,cur,rfl,_⟩
 ·exact⟨none,0,0,rfl⟩
 ·exact⟨_,_,_,rfl⟩
theorem World.sr.grown {g:Nat} (h:World.sr w base v l) (hg:w.grownBy w' (some g)) (hlt:g<base):World.sr w' base v l:=
 World.ownsRow.kept h hg (by
  cases hv:v.ownBlock with
  |none=>exact .inl rfl
  |some k=>
   right
   intro e
   injection e with e
   have:=(World.ownsRow.lt h k hv).1
   omega)
theorem sr_grown {B:Nat} {w0:World} (h:World.sr w base v l) (hb:B≤base) (hB:Below B w0 w) (hB2:B≤w.heap.size) (hg:w.grownBy w' v.ownBlock):Below B w0 w':=by
 refine hB.grown hg hB2 (fun k hk=> ?_)
 have:=(World.ownsRow.lt h k hk).1
 omega
theorem World.sr.slice (h:World.sr w base v l):∃p c,v= .slice p l.length c∧l.length≤c∧(l≠ []→∃g,p=some ⟨g,0,none⟩∧g<w.heap.size∧∀(j:Nat) (x:ByteArray),l[j]? =some x→w.cell? ⟨g,j,none⟩=some (.string x)):=by
 have h':=h
 obtain⟨_,h|⟨g,cap,cur,rfl,hb,hc,h1,h2,h3,h4⟩⟩:=h
 ·exact⟨none,0,by rw[h.1,h.2],by rw[h.2];exact Nat.le_refl _,fun e=>absurd (List.length_eq_zero_iff.1 h.2) e⟩
 ·refine⟨_,cap,rfl,h1,fun _=>⟨g,rfl,(Array.getElem?_eq_some_iff.1 hc).1,fun j x hj=> ?_⟩⟩
  have:=World.ownsRow.cells h' (g:=g) rfl j (.string x) (by rw[List.getElem?_map,hj];rfl)
  rw[add_at,Nat.zero_add]at this
  exact this
end
theorem info9b :(Tryz.prog.info? 9).map (fun i=>(i.zero,i.size,i.bytes))=some (some (.string ⟨#[]⟩),1,16):=by kernel_rfl
theorem cell_new_one (w:World) (u:Value) (t:Nat):(w.alloc (.cells #[u] t)).cell? ⟨w.heap.size,0,none⟩=some u:=by
 rw[cell_of_row _ _ _ _ _ _ (heap_alloc_new w (.cells #[u] t))];rfl
theorem bslice_str (s:ByteArray) (w:World):(Instr.buildSlice 23 1 #[(0,.string s)]).run Tryz.prog w= .ok (.slice (some ⟨w.heap.size,0,none⟩) 1 1) (w.alloc (.cells #[.string s] 9)):=by kernel_rfl
section
variable {o : Oper} {a : Act} {w : World} {K : Act → World → Prop} {Q : Exit → Act → World → Prop}
theorem op_bslS {x:Operand} {s:ByteArray} (ho:o.op= .buildSlice 23 1 #[(0,x)]) (hx:a.eval x= .string s) (h:K (a.put o.dst (.slice (some ⟨w.heap.size,0,none⟩) 1 1)) (w.alloc (.cells #[.string s] 9))):o.wp Tryz.prog a w K Q:=by
 have hz:=bslice_str s w
 unfold Oper.wp execOp
 simp[ho,hx,hz]
 exact h
theorem op_pushS (s x:Operand) (ho:o.op= .call {callee:= .builtin .append,args:= #[s,x],argTypes:= #[23,23]})
 (base:Nat) (v:Value) (l:List ByteArray) (y:ByteArray) (g:Nat) (hown:World.sr w base v l) (hl:l.length≤100000) (hs:a.eval s=v) (hx:a.eval x= .slice (some ⟨g,0,none⟩) 1 1) (hc:w.cell? ⟨g,0,none⟩=some (.string y)) (hbase:base≤w.heap.size)
 (h:∀v' w',World.sr w' base v' (l++ [y])→w.grownBy w' v.ownBlock→K (a.put o.dst v') w'):o.wp Tryz.prog a w K Q:=by
 obtain⟨i0,hi,hz0,hz1,hz2⟩:=info_parts info9b
 refine wp_append_own w s x 23 ho base 9 i0 _ 1 16 Tryz.underlying23 hi hz0 hz1 hz2 rfl (by decide) v l.length _ hs hown ⟨g,0,none⟩ 1 1 [.string y] hx rfl ?_ ?_ ?_ ?_ hbase ?_
 ·intro j u hj
  match j,hj with
  |0,hj=>rw[←hj];simpa [add_at]using hc
  |j+1,hj=>simp at hj
 ·intro u hu
  rw[List.mem_singleton.1 hu];rfl
 ·unfold maxLen;omega
 ·omega
 ·intro v' w' h1 h2 _
  refine h v' w' ?_ h2
  unfold World.sr
  rw[List.map_append,List.length_append]
  exact h1
end
section
variable {ops : Array Oper} {rest : List Oper} {o : Oper} {a : Act} {w : World} {Q : Exit → Act → World → Prop}
theorem wpList_bslS {x:Operand} {s:ByteArray} (hgd:o.guard=none) (ho:o.op= .buildSlice 23 1 #[(0,x)]) (hx:a.eval x= .string s) (h:wpList Tryz.prog ops Q rest (a.put o.dst (.slice (some ⟨w.heap.size,0,none⟩) 1 1)) (w.alloc (.cells #[.string s] 9))):wpList Tryz.prog ops Q (o :: rest) a w:=
 wpList_plain hgd fun _ hK=>op_bslS ho hx (hK _ _ h)
theorem wpList_pushS {s x:Operand} (hgd:o.guard=none) (ho:o.op= .call {callee:= .builtin .append,args:= #[s,x],argTypes:= #[23,23]})
 {base:Nat} {v:Value} {l:List ByteArray} {y:ByteArray} {g:Nat} (hown:World.sr w base v l) (hl:l.length≤100000) (hs:a.eval s=v) (hx:a.eval x= .slice (some ⟨g,0,none⟩) 1 1) (hc:w.cell? ⟨g,0,none⟩=some (.string y)) (hbase:base≤w.heap.size)
 (h:∀v' w',World.sr w' base v' (l++ [y])→w.grownBy w' v.ownBlock→wpList Tryz.prog ops Q rest (a.put o.dst v') w'):wpList Tryz.prog ops Q (o :: rest) a w:=
 wpList_plain hgd fun _ hK=>op_pushS s x ho base v l y g hown hl hs hx hc hbase fun v' w' h1 h2=>hK _ _ (h v' w' h1 h2)
end
theorem ext_mk (s:ByteArray) (k:Nat):s.extract 0 k=mk (s.data.toList.take k):=by
 apply ByteArray.ext
 rw[ByteArray.data_extract]
 unfold mk
 rw[←Array.toList_inj]
 simp
theorem ext_mk2 (s:ByteArray) (k:Nat):s.extract k s.size=mk (s.data.toList.drop k):=by
 apply ByteArray.ext
 have:=drop_ext s k
 rw[←Array.toList_inj,this]
 simp[mk]
set_option maxRecDepth 100000 in
set_option maxHeartbeats 8000000 in
theorem signs_any (s:ByteArray) (hs:s.size≤50000) (w:World) (hT:Lib.Utf8Tabs 2 3 w):Calls Tryz.prog 245 #[.string s] w (fun e w'=>∃v,e= .returned v∧World.sr w' w.heap.size v ((sgs s.data.toList).map mk)∧Below w.heap.size w w'):=by
 have HT:=Lib.hid (show ∀W,Below w.heap.size w W→Lib.Utf8Tabs 2 3 W from fun W hW=>tabs_below hT hW)
 clear hT
 go_enter Tryz.func245,Tryz.ntmps245
 go_wp2_with fail
 go_loopw [0,2] (fun r v wr=>∃(D:List (List UInt8)) (rest:ByteArray),r= .string rest∧rest.size≤s.size∧D.length+rest.size≤s.size∧Hid (sgs s.data.toList=D++sgs rest.data.toList)∧Hid (World.sr wr w.heap.size v (D.map mk))∧Below w.heap.size w wr) (fun r _ _=>match r with| .string b=>b.size|_=>0)
 case atStart=>exact⟨[],s,rfl,Nat.le_refl _,by simp,rfl,World.sr_nil,Below.refl _ _⟩
 case round=>
  obtain⟨D,rest,rfl,hrs,hDl,HSG,HR,hB⟩:=hrel
  by_cases hz:rest.size=0
  ·have hI:¬((0:Int)<(rest.size:Int)):=by omega
   have HE:Hid (rest.data.toList= []):=Lib.hid (List.eq_nil_of_length_eq_zero (by rw[←Lib.size_eq];exact hz))
   go_wp2_with fail
   go_ret
   refine⟨_,rfl,?_,hB⟩
   have e:=HSG.out
   rw[HE.out,sgs_nil,List.append_nil]at e
   rw[e];exact HR.out
  ·have hI:(0:Int)<(rest.size:Int):=by omega
   have hne:rest.data.toList≠ []:=by intro e;exact hz (by rw[Lib.size_eq,e];rfl)
   obtain⟨k,hk⟩:∃k,k=wid rest.data.toList:=⟨_,rfl⟩
   have hkl:=wid_le hne
   rw[←hk,←Lib.size_eq]at hkl
   have HG:=Lib.hid (Tryz.utf8_DecodeRuneInString rest wr (HT.out wr hB))
   have hgw:=go_wid hne
   rw[←hk]at hgw
   rw[hgw]at HG
   have HSC:=Lib.hid (sgs_cons hne)
   rw[←hk]at HSC
   generalize (decodeGo rest).1=q at HG
   have HLN:Hid ((D.map mk).length≤100000):=Lib.hid (by rw[List.length_map];omega)
   have hkl1:(1:Int)≤(k:Int):=by omega
   have hkl2:(k:Int)≤(rest.size:Int):=by omega
   clear hk hgw hne
   go_wp2_with fail
   refine HG.out.mono ?_
   rintro e w2 ⟨rfl,hB2⟩
   have HR2:=Lib.hid (HR.out.below hB2)
   have hB2:=hB.trans (hB2.mono hB.size)
   have HX1:=Lib.hid (ext_mk rest k)
   have HX2:=Lib.hid (ext_mk2 rest k)
   go_upto_region 3 with fail
   refine wp_region_held_drew (S:=fun _=>True) (by kernel_rfl) trivial (fun hHeld=> ?_)
   refine wpAnyH_take (i:=0) (v:= ?_) rfl (by kernel_rfl) (by kernel_rfl) (by kernel_rfl) (fun _ _ _ h=>h) (Or.inl ⟨by rfl,?_⟩) hHeld ?_
   rotate_left
   ·(intro w9 hSw;(try dsimp only at hSw);go_simp)
    all_goals with_reducible rfl
   try simp only[Act.put,List.setIfInBounds_toArray,List.set_cons_zero,List.set_cons_succ,List.getElem_toArray,List.getElem_cons_zero]
   refine wpAnyH_take (i:=1) (v:= ?_) rfl (by kernel_rfl) (by kernel_rfl) (by kernel_rfl) (fun _ _ _ h=>h) (Or.inl ⟨by rfl,?_⟩) hHeld ?_
   rotate_left
   ·(intro w9 hSw;(try dsimp only at hSw);go_simp)
    all_goals with_reducible rfl
   try simp only[Act.put,List.setIfInBounds_toArray,List.set_cons_zero,List.set_cons_succ,List.getElem_toArray,List.getElem_cons_zero,List.getElem_cons_succ]
   refine wpAnyH_take (i:=2) (v:= ?_) rfl (by kernel_rfl) (by kernel_rfl) (by kernel_rfl) (fun _ _ _ h=>h) (Or.inl ⟨by rfl,?_⟩) hHeld ?_
   rotate_left
   ·(intro w9 hSw;(try dsimp only at hSw);go_simp)
    all_goals with_reducible rfl
   try simp only[Act.put,List.setIfInBounds_toArray,List.set_cons_zero,List.set_cons_succ,List.getElem_toArray,List.getElem_cons_zero,List.getElem_cons_succ]
   refine wpAnyH_take (i:=3) (v:= ?_) rfl (by kernel_rfl) (by kernel_rfl) (by kernel_rfl) (fun _ _ _ h=>h) (Or.inl ⟨by rfl,?_⟩) hHeld ?_
   rotate_left
   ·(intro w9 hSw;(try dsimp only at hSw);go_simp)
    all_goals with_reducible rfl
   try simp only[Act.put,List.setIfInBounds_toArray,List.set_cons_zero,List.set_cons_succ,List.getElem_toArray,List.getElem_cons_zero,List.getElem_cons_succ]
   refine wpAnyH_take (i:=6) (v:= ?_) rfl (by kernel_rfl) (by kernel_rfl) (by kernel_rfl) (fun _ _ _ h=>h) (Or.inl ⟨by rfl,?_⟩) hHeld ?_
   rotate_left
   ·(intro w9 hSw;(try dsimp only at hSw);go_simp)
    all_goals with_reducible rfl
   try simp only[Act.put,List.setIfInBounds_toArray,List.set_cons_zero,List.set_cons_succ,List.getElem_toArray,List.getElem_cons_zero,List.getElem_cons_succ]
   refine wpAnyH_take (i:=7) (v:= ?_) rfl (by kernel_rfl) (by kernel_rfl) (by kernel_rfl) (fun _ _ _ h=>h) (Or.inl ⟨by rfl,?_⟩) hHeld ?_
   rotate_left
   ·(intro w9 hSw;(try dsimp only at hSw);go_simp)
    all_goals with_reducible rfl
   try simp only[Act.put,List.setIfInBounds_toArray,List.set_cons_zero,List.set_cons_succ,List.getElem_toArray,List.getElem_cons_zero,List.getElem_cons_succ]
   refine wpAnyH_take (i:=8) (v:= ?_) rfl (by kernel_rfl) (by kernel_rfl) (by kernel_rfl) (fun _ _ _ h=>h) (Or.inl ⟨by rfl,?_⟩) hHeld ?_
   rotate_left
   ·(intro w9 hSw;(try dsimp only at hSw);go_simp)
    all_goals with_reducible rfl
   try simp only[Act.put,List.setIfInBounds_toArray,List.set_cons_zero,List.set_cons_succ,List.getElem_toArray,List.getElem_cons_zero,List.getElem_cons_succ]
   have HR3:=Lib.hid (show World.sr w2.drew _ _ _ from HR2.out)
   have hB3:=hB2.drew
   clear hHeld
   refine wpAnyH_ready (rs:= [4]) (by kernel_rfl) (by simp) ?_
   refine(AllReadyH.cons (o:=⟨some 17,_,_,_,_,_⟩) rfl (fun KK hK=> ?_) AllReadyH.nil)
   ·rw[if_pos (by rfl)]
    refine op_bslS rfl rfl ?_
    have hB4:=hB3.alloc hB3.size (.cells #[.string (rest.extract 0 k)] 9)
    have HR4:=Lib.hid (HR3.out.alloc (.cells #[.string (rest.extract 0 k)] 9))
    have hbc:=cell_new_one w2.drew (.string (rest.extract 0 k)) 9
    obtain⟨gn,hgn⟩:∃g,g=w2.drew.heap.size:=⟨_,rfl⟩
    obtain⟨w4,hw4⟩:∃w,w=w2.drew.alloc (.cells #[.string (rest.extract 0 k)] 9):=⟨_,rfl⟩
    rw[←hw4]at hB4 HR4 hbc⊢
    rw[←hgn]at hbc⊢
    clear hw4 hgn
    refine hK.out _ _ trivial (fun hHeld=> ?_)
    clear hK KK hHeld
    try simp only[Act.put,List.setIfInBounds_toArray,List.set_cons_zero,List.set_cons_succ]
    refine wpAnyH_ready (rs:= [5]) (by kernel_rfl) (by simp) ?_
    refine(AllReadyH.cons (o:=⟨some 18,_,_,_,_,_⟩) rfl (fun KK hK=> ?_) AllReadyH.nil)
    ·rw[if_pos (by rfl)]
     refine op_pushS _ _ rfl w.heap.size _ _ _ gn HR4.out HLN.out rfl rfl hbc hB4.size ?_
     intro v5 w5 hr5 hg5
     obtain⟨pv,nv,cv,rfl⟩:=World.sr.shape2 hr5
     have hB5:=sr_grown HR4.out (Nat.le_refl _) hB4 hB4.size hg5
     clear hbc hg5
     refine hK.out _ _ trivial (fun hHeld=> ?_)
     clear hK KK hHeld
     try simp only[Act.put,List.setIfInBounds_toArray,List.set_cons_zero,List.set_cons_succ]
     refine wpAnyH_ready (rs:= [9]) (by kernel_rfl) (by simp) ?_
     refine(AllReadyH.cons (o:=⟨some 2,_,_,_,_,_⟩) rfl (fun KK hK=> ?_) AllReadyH.nil)
     ·rw[if_pos (by rfl)]
      go_simp
      refine hK.out _ _ trivial (fun hHeld=> ?_)
      clear hK KK hHeld
      try simp only[Act.put,List.setIfInBounds_toArray,List.set_cons_zero,List.set_cons_succ,List.getElem_toArray,List.getElem_cons_zero,List.getElem_cons_succ]
      refine wpAnyH_ready (rs:= [10]) (by kernel_rfl) (by simp) ?_
      refine(AllReadyH.cons (o:=⟨some 0,_,_,_,_,_⟩) rfl (fun KK hK=> ?_) AllReadyH.nil)
      ·rw[if_pos (by rfl)]
       go_simp
       refine hK.out _ _ trivial (fun hHeld=> ?_)
       clear hK KK hHeld
       try simp only[Act.put,List.setIfInBounds_toArray,List.set_cons_zero,List.set_cons_succ,List.getElem_toArray,List.getElem_cons_zero,List.getElem_cons_succ]
       refine wpAnyH_done (by kernel_rfl) ?_ _
       try simp only[Act.put,List.setIfInBounds_toArray,List.set_cons_zero,List.set_cons_succ,List.getElem_toArray,List.getElem_cons_zero,List.getElem_cons_succ]
       go_wp2_with fail
       go_roundw
       case rel=>
        have hsz:(rest.extract k rest.size).size=rest.size-k:=by rw[ByteArray.size_extract];omega
        refine⟨D++ [rest.data.toList.take k],rest.extract k rest.size,rfl,by omega,by rw[List.length_append,List.length_singleton];omega,?_,?_,hB5⟩
        ·show _=_
         rw[HSG.out,HSC.out,List.append_assoc,drop_ext];rfl
        ·show World.sr _ _ _ _
         rw[List.map_append,List.map_singleton,←HX1.out];exact hr5
       case measure=>
        have hsz:(rest.extract k rest.size).size=rest.size-k:=by rw[ByteArray.size_extract];omega
        show(rest.extract k rest.size).size<rest.size
        omega
end Go.Proofs.YtmhfioimgllgeaaGreatDoor
namespace Go.Proofs.YtmhfioimgllgeaaGreatDoor
open Go Go.RowKit Go.Shelf
theorem cells_str {w:World} {g:Nat} {z:Vl} (h:World.vb w g (pcs z)):w.cell? ⟨g,3,none⟩=some (.string z.s):=h.cell rfl
set_option maxRecDepth 100000 in
set_option maxHeartbeats 8000000 in
theorem texts1_any (gd:Nat) (eg:∀args w,(callFunc gd args).run Tryz.prog w= .ok (.enter gd args) w) (y:Vl) (zs:List Vl) (base g cap:Nat) (u:Value) (w:World) (hg:∀b S W,Below w.heap.size w W→World.sr W b S (zs.map (·.s))→World.vr W base (.slice (some ⟨g,0,none⟩) zs.length cap) zs→Calls Tryz.prog gd #[S,.slice (some ⟨g,0,none⟩) zs.length cap] W (Gives (.agg (pcs y)) W)) (hr:World.vr w base (.slice (some ⟨g,0,none⟩) zs.length cap) zs) (_hgl:g<w.heap.size) (hn:zs.length≤100) (hb:Bx w u (.func (.func gd) #[] #[])):
 Calls Tryz.prog 243 #[.slice (some ⟨g,0,none⟩) zs.length cap,u] w (Gives (.agg (pcs y)) w):=by
 obtain⟨b,t,rfl,hbx⟩:=hb
 have hbl:=hbx.lt
 have HVR:=Lib.hid (show ∀W,Below w.heap.size w W→World.vr W base (.slice (some ⟨g,0,none⟩) zs.length cap) zs from fun W hW=>World.vr.below hr hW)
 have HBX:=Lib.hid (show ∀W,Below w.heap.size w W→World.blk W b t #[.func (.func gd) #[] #[]]from fun W hW=>hbx.below hW hbl)
 have HG:=Lib.hid hg
 clear hr hbx hg
 go_enter Tryz.func243,Tryz.ntmps243
 go_wp2_with (refine wpList_alloc34 rfl rfl ?_)
 have hvy0:World.vb (w.alloc (.cells vz 39)) w.heap.size vz:=World.vb_new w vz
 have hB0:Below w.heap.size w (w.alloc (.cells vz 39)):=(Below.refl _ w).alloc (Nat.le_refl _) _
 go_loopw [4,9] (fun s i wr=>∃K:Nat,i= .int .i64 (K:Int)∧K≤zs.length∧Hid (World.sr wr (w.heap.size+1) s ((zs.take K).map (·.s)))∧Hid (World.vb wr w.heap.size vz)∧Below w.heap.size w wr) (fun _ i _=>zs.length-(intOf i).toNat)
 case atStart=>exact⟨0,rfl,Nat.zero_le _,World.sr_nil,hvy0,hB0⟩
 case round=>
  clear hvy0 hB0
  obtain⟨K,rfl,hK,HR,HV,hB⟩:=hrel
  by_cases hlt:K<zs.length
  ·have hKI:(K:Int)<(zs.length:Int):=by omega
   obtain⟨z,hzK⟩:∃z,zs[K]? =some z:=⟨_,List.getElem?_eq_getElem hlt⟩
   have hcz:=vr_cells (HVR.out wr hB) hzK
   have HTK:=Lib.hid (show(zs.take (K+1)).map (·.s)=(zs.take K).map (·.s)++ [z.s] by rw[List.take_add_one,hzK,List.map_append];rfl)
   have hlen:((zs.take K).map (·.s)).length≤100000:=by rw[List.length_map,List.length_take];omega
   have HLN:=Lib.hid hlen
   clear hzK hlen
   go_upto_region 5 with (first|refine wpList_load34at rfl rfl rfl rfl hcz ?_|refine wpList_alloc34 rfl rfl ?_|(refine wpList_store34 rfl rfl rfl rfl (World.vb_new' _ _ _ rfl) (by rfl) (pcs_one _) ?_;intro w1 hn1 hg1 hz1))
   have hb1:Below wr.heap.size wr w1:=((Below.refl _ wr).alloc (Nat.le_refl _) (.cells vz 39)).grown hg1 (by simp) (fun k hk=>by cases hk;exact Nat.le_refl _)
   have c3:=cells_str hn1
   have HR1:=Lib.hid (HR.out.below hb1)
   have HV1:=Lib.hid (HV.out.below hb1 HV.out.lt)
   have hB1:=hB.trans (hb1.mono hB.size)
   have hB1z:=hB1.size
   have HR8:=Lib.hid (show World.sr (w1.alloc (.cells #[.string z.s] 9)) (w.heap.size+1) _ _ from HR1.out.alloc _)
   have HS:=Lib.hid (World.ownsRow.lt HR8.out)
   clear hcz hg1 hz1 hb1 hn1
   go_wp2_with (first|refine wpList_bslS rfl rfl rfl ?_|(refine wpList_pushS rfl rfl HR8.out HLN.out rfl rfl (cell_new_one w1 _ _) (by have:=HV1.out.lt;simp;omega) ?_;intro v8 w8 hr8 hg8))
   have hvb8:=(HV1.out.alloc (.cells #[.string z.s] 9)).grown hg8 (fun e=>by have:=(HS.out _ e.symm).1;omega)
   have hB8:=hB1.alloc hB1z (.cells #[.string z.s] 9)
   go_roundw
   case rel=>exact⟨K+1,by go_num,by omega,by rw[HTK.out];exact hr8,hvb8,sr_grown HR8.out (Nat.le_succ _) hB8 hB8.size hg8⟩
   case measure=>simp[intOf];omega
  ·obtain rfl:K=zs.length:=by omega
   have hKI:¬((zs.length:Int)<(zs.length:Int)):=by omega
   have hvy:=HV.out
   have hc:=(HBX.out wr hB).cell (j:=0) rfl
   have hd:=HR.out
   rw[List.take_length]at hd
   have HVW:=Lib.hid (HVR.out wr hB)
   have HDD:=Lib.hid hd
   have HBB:=Lib.hid hB
   clear hd HR HV HVR
   go_wp2_with (first|(go_at_fn gd;refine(HG.out _ _ _ HBB.out HDD.out HVW.out).mono ?_;rintro e w4 ⟨rfl,hB4⟩;have hvy:=hvy.below hB4 hvy.lt;have hB:=hB.trans (hB4.mono hB.size))|(refine wpList_store34 rfl rfl rfl rfl hvy (by rfl) (pcs_one _) ?_;intro w9 hn9 hg9 hz9))
   refine bodyPost_ret (results_cell_row rfl _ _ _ 39 _ (0,0) _ rfl hn9 Tryz.underlying39 rfl info34) rfl ?_
   exact⟨rfl,hB.grown hg9 hB.size (fun k9 hk9=>by cases hk9;omega)⟩
set_option maxRecDepth 100000 in
set_option maxHeartbeats 4000000 in
theorem ftext_any (s:ByteArray) (h:txtOk s=true) (w:World) (he:Env w):Calls Tryz.prog 240 #[.string s] w (Gives (.agg (pcs (txtV s))) w):=by
 have HR:=Lib.hid (show ∀W,Below w.heap.size w W→Calls Tryz.prog 19 #[.agg (pcs (txtV s))] W (Gives (.bool true) W)from fun W hW=>right27 (at_plain (plain_txt h)) (he.below hW))
 have hB0:Below w.heap.size w (w.alloc (.cells vz 39)):=(Below.refl _ w).alloc (Nat.le_refl _) _
 have hv0:World.vb (w.alloc (.cells vz 39)) w.heap.size vz:=World.vb_new w vz
 have hB1:=hB0.alloc (by simp) (.cells vz 39)
 have hv1:=hv0.alloc (.cells vz 39)
 clear hB0 hv0 he
 go_enter Tryz.func240,Tryz.ntmps240
 go_upto_region 2 with (first|refine wpList_alloc34 rfl rfl ?_|refine wpList_build_txt rfl rfl (by rfl) ?_|(refine wpList_store34 rfl rfl rfl rfl (World.vb_new' _ vz _ (by simp)) (by rfl) (pcs_one (txtV s)) ?_;intro w1 hn1 hg1 hz1))
 go_simp
 have hB2:=hB1.grown hg1 (by simp;omega) (fun k9 hk9=>by cases hk9;simp)
 have hv2:=hv1.grown hg1 (by simp)
 have hn2:World.vb w1 (w.heap.size+1) (pcs (txtV s)):=by simpa using hn1
 clear hn1 hg1 hz1
 go_wp2_with (first|refine wpList_load34 rfl rfl rfl hn2 (by rfl) ?_|(go_at_call 19;refine(HR.out _ hB2).mono ?_;rintro e w3 ⟨rfl,hB3⟩;have hn3:=hn2.below hB3 hn2.lt;have hv3:=hv2.below hB3 hv2.lt;have hB4:=hB2.trans (hB3.mono hB2.size))|refine wpList_load34 rfl rfl rfl hn3 (by rfl) ?_|(refine wpList_store34 rfl rfl rfl rfl hv3 (by rfl) (pcs_one (txtV s)) ?_;intro w9 hn9 hg9 hz9))
 refine bodyPost_ret (results_cell_row rfl _ _ _ 39 _ (0,0) _ rfl hn9 Tryz.underlying39 rfl info34) rfl ?_
 exact⟨rfl,hB4.grown hg9 hB4.size (fun k9 hk9=>by cases hk9;omega)⟩
end Go.Proofs.YtmhfioimgllgeaaGreatDoor
namespace Go.Proofs.YtmhfioimgllgeaaGreatDoor
open Go Go.RowKit Go.Shelf Go.Lib
theorem join_flat :∀L:List (List UInt8),Lib.join L []=L.flatten
 | []=>rfl
 |x :: r=>by
  rw[join_cons,List.flatten_cons]
  unfold joinTail
  congr 1
  induction r with
  |nil=>rfl
  |cons y r ih=>simp
theorem sgs_text :∀(n:Nat) (l:List UInt8),l.length≤n→isTextL l=true→∀c∈sgs l,isTextL c=true
 |0,l,h,_=>by
  have:l= []:=List.eq_nil_of_length_eq_zero (by omega)
  subst this
  intro c hc;simp[sgs_nil]at hc
 |n+1,l,h,ht=>by
  by_cases hl:l= []
  ·subst hl;intro c hc;simp[sgs_nil]at hc
  ·have h3:=wid_le hl
   rw[isTextL_step l hl]at ht
   split at ht
   ·cases ht
   ·rename_i hs
    have e:wid l=sgnL l:=by unfold wid;rw[if_neg (fun e=>hs (.inl e))]
    intro c hc
    rw[sgs_cons hl,List.mem_cons]at hc
    rcases hc with rfl|hc
    ·rw[e];exact isTextL_sign hs
    ·rw[e]at hc
     exact sgs_text n _ (by rw[List.length_drop];omega) ht c hc
theorem flat_text :∀L:List (List UInt8),(∀c∈L,isTextL c=true)→isTextL L.flatten=true
 | [],_=>rfl
 |x :: r,h=>isTextL_app _ x _ (Nat.le_refl _) (h x (List.mem_cons_self ..)) (flat_text r fun c hc=>h c (List.mem_cons_of_mem _ hc))
theorem flat_part (L:List (List UInt8)) (a b:Nat):((L.drop a).take b).flatten.length≤L.flatten.length:=by
 have h1:L.flatten=(L.take a).flatten++(((L.drop a).take b).flatten++((L.drop a).drop b).flatten):=by
  rw[←List.flatten_append,←List.flatten_append,List.take_append_drop,List.take_append_drop]
 rw[h1,List.length_append,List.length_append]
 omega
/-- A part of a text is one. -/
theorem part_text {s:ByteArray} (h:txtOk s=true) (a b:Nat):txtOk (mk (((sgs s.data.toList).drop a).take b).flatten)=true:=by
 unfold txtOk at*
 rw[Bool.and_eq_true,decide_eq_true_iff]at*
 have h1:=flat_part (sgs s.data.toList) a b
 rw[sgs_flat _ _ (Nat.le_refl _)]at h1
 refine⟨?_,?_⟩
 ·show(mk _).data.size≤200
  have:(mk (((sgs s.data.toList).drop a).take b).flatten).data.size=(((sgs s.data.toList).drop a).take b).flatten.length:=by unfold mk;simp
  rw[this]
  have h2:s.size=s.data.toList.length:=by rw[Lib.size_eq]
  omega
 ·show isTextL ((mk _).data.toList)=true
  have:(mk (((sgs s.data.toList).drop a).take b).flatten).data.toList=(((sgs s.data.toList).drop a).take b).flatten:=by unfold mk;simp
  rw[this]
  exact flat_text _ fun c hc=>sgs_text _ _ (Nat.le_refl _) h.2 c (List.mem_of_mem_drop (List.mem_of_mem_take hc))
def midL (l:List UInt8) (a n:Int):List UInt8:=(((sgs l).drop (min (a-1) ((sgs l).length:Int)).toNat).take (min n (((sgs l).length-(min (a-1) ((sgs l).length:Int)).toNat:Nat):Int)).toNat).flatten
def midV (s:ByteArray) (y z:Vl):Vl:=if whR y 1 4611686018427387904=true∧whR z 0 4611686018427387904=true then txtV (mk (midL s.data.toList (whN y) (whN z)))else errV 3
set_option maxRecDepth 100000 in
set_option maxHeartbeats 8000000 in
theorem mid_any (s:ByteArray) (hs:txtOk s=true) (x y z:Vl) (hy:RightP (dcs y)) (hz:RightP (dcs z)) (b base g cap:Nat) (S:Value) (w:World) (hS:World.sr w b S [s,y.s,z.s]) (hL:World.vr w base (.slice (some ⟨g,0,none⟩) 3 cap) [x,y,z]) (hE:Env w):
 Calls Tryz.prog 155 #[S,.slice (some ⟨g,0,none⟩) 3 cap] w (Gives (.agg (pcs (midV s y z))) w):=by
 obtain⟨p,c,rfl,_,hp⟩:=hS.slice
 obtain⟨gs,rfl,hgs,hcs⟩:=hp (by simp)
 have hc0:=hcs 0 s rfl
 have HS:=Lib.hid (show ∀W,Below w.heap.size w W→W.cell? ⟨gs,0,none⟩=some (.string s)from fun W hW=>(hW.cell (p:=⟨gs,0,none⟩) hgs).trans hc0)
 have HVR:=Lib.hid (show ∀W,Below w.heap.size w W→World.vr W base (.slice (some ⟨g,0,none⟩) 3 cap) [x,y,z]from fun W hW=>World.vr.below hL hW)
 have HEN:=Lib.hid (show ∀W,Below w.heap.size w W→Env W from fun W hW=>hE.below hW)
 have HWY:=Lib.hid (fun W=>wholeF_any y 1 4611686018427387904 (pcs y) W rfl rfl rfl (pcs_one _) (by have:=hy.1;have:=hy.2.1;simp only at *;omega))
 have HWZ:=Lib.hid (fun W=>wholeF_any z 0 4611686018427387904 (pcs z) W rfl rfl rfl (pcs_one _) (by have:=hz.1;have:=hz.2.1;simp only at *;omega))
 have HB1:Hid (whR y 1 4611686018427387904=true→1≤whN y∧whN y≤4611686018427387904):=Lib.hid fun h=>by
  unfold whR at h
  simp only[Bool.and_eq_true,decide_eq_true_iff]at h
  exact h.2
 have HB2:Hid (whR z 0 4611686018427387904=true→0≤whN z∧whN z≤4611686018427387904):=Lib.hid fun h=>by
  unfold whR at h
  simp only[Bool.and_eq_true,decide_eq_true_iff]at h
  exact h.2
 have HEQ:Hid (midV s y z=if whR y 1 4611686018427387904=true∧whR z 0 4611686018427387904=true then txtV (mk (midL s.data.toList (whN y) (whN z)))else errV 3):=Lib.hid rfl
 have HTX:=Lib.hid (fun a b=>part_text hs a b)
 have hsz:s.size≤200:=by
  unfold txtOk at hs
  simp at hs
  exact hs.1
 have HSG:=Lib.hid (fun W (hW:Below w.heap.size w W)=>signs_any s (by omega) W (hE.below hW).1)
 have hlen:=sgs_len _ s.data.toList (Nat.le_refl _)
 rw[←Lib.size_eq]at hlen
 have HFL:=Lib.hid (show ∀a b,(((sgs s.data.toList).drop a).take b).flatten.length≤200 from fun a b=>by
  have h1:=flat_part (sgs s.data.toList) a b
  rw[sgs_flat _ _ (Nat.le_refl _),←Lib.size_eq]at h1
  omega)
 unfold WholePost at HWY HWZ
 unfold midL at HEQ
 obtain⟨G,hG⟩:∃G,G=sgs s.data.toList:=⟨_,rfl⟩
 rw[←hG]at HEQ HTX HSG hlen HFL
 obtain⟨n,hn⟩:∃n,n=whN y:=⟨_,rfl⟩
 obtain⟨m,hm⟩:∃n,n=whN z:=⟨_,rfl⟩
 obtain⟨by1,hby⟩:∃q,q=whR y 1 4611686018427387904:=⟨_,rfl⟩
 obtain⟨bz1,hbz⟩:∃q,q=whR z 0 4611686018427387904:=⟨_,rfl⟩
 rw[←hn,←hby]at HWY HB1 HEQ
 rw[←hm,←hbz]at HWZ HB2 HEQ
 clear hn hm hby hbz hG hE hL hc0 hcs hgs hS hp hs hy hz
 have hv0:World.vb (w.alloc (.cells vz 39)) w.heap.size vz:=World.vb_new w vz
 have hB0:Below w.heap.size w (w.alloc (.cells vz 39)):=(Below.refl _ w).alloc (Nat.le_refl _) _
 have hcy:=vr_cells (HVR.out _ hB0) (k:=1) (x:=y) rfl
 cases by1<;>cases bz1
 all_goals
  go_enter Tryz.func155,Tryz.ntmps155
  go_upto_region 3 with (first|refine wpList_alloc34 rfl rfl ?_|refine wpList_load34at rfl rfl rfl rfl hcy ?_|refine wpList_load34at rfl rfl rfl rfl hcz ?_|(go_at_call 128;go_fit (HWY.out _);rintro e w1 ⟨rfl,hB1⟩;have hv1:=hv0.below hB1 hv0.lt;have hB1:=hB0.trans (hB1.mono hB0.size);have hcz:=vr_cells (HVR.out _ hB1) (k:=2) (x:=z) rfl)|(go_at_call 128;go_fit (HWZ.out _);rintro e w2 ⟨rfl,hB2⟩;have hv2:=hv1.below hB2 hv1.lt;have hB2:=hB1.trans (hB2.mono hB1.size)))
 ·have hE1:=HEQ.out
  rw[if_neg (by simp)]at hE1
  have HE1:=Lib.hid hE1
  clear hE1
  go_wp2_with (first|(go_at_call 44;refine(fault_any 3 _).mono ?_;rintro e w3 ⟨rfl,hB3⟩;have hv3:=hv2.below hB3 hv2.lt;have hB3:=hB2.trans (hB3.mono hB2.size))|(refine wpList_store34 rfl rfl rfl rfl hv3 (by rfl) (pcs_one _) ?_;intro w9 hn9 hg9 hz9))
  refine bodyPost_ret (results_cell_row rfl _ _ _ 39 _ (0,0) _ rfl hn9 Tryz.underlying39 rfl info34) rfl ?_
  exact⟨by rw[HE1.out],hB3.grown hg9 hB3.size (fun k9 hk9=>by cases hk9;omega)⟩
 ·have hE1:=HEQ.out
  rw[if_neg (by simp)]at hE1
  have HE1:=Lib.hid hE1
  clear hE1
  go_wp2_with (first|(go_at_call 44;refine(fault_any 3 _).mono ?_;rintro e w3 ⟨rfl,hB3⟩;have hv3:=hv2.below hB3 hv2.lt;have hB3:=hB2.trans (hB3.mono hB2.size))|(refine wpList_store34 rfl rfl rfl rfl hv3 (by rfl) (pcs_one _) ?_;intro w9 hn9 hg9 hz9))
  refine bodyPost_ret (results_cell_row rfl _ _ _ 39 _ (0,0) _ rfl hn9 Tryz.underlying39 rfl info34) rfl ?_
  exact⟨by rw[HE1.out],hB3.grown hg9 hB3.size (fun k9 hk9=>by cases hk9;omega)⟩
 ·have hE1:=HEQ.out
  rw[if_neg (by simp)]at hE1
  have HE1:=Lib.hid hE1
  clear hE1
  go_wp2_with (first|(go_at_call 44;refine(fault_any 3 _).mono ?_;rintro e w3 ⟨rfl,hB3⟩;have hv3:=hv2.below hB3 hv2.lt;have hB3:=hB2.trans (hB3.mono hB2.size))|(refine wpList_store34 rfl rfl rfl rfl hv3 (by rfl) (pcs_one _) ?_;intro w9 hn9 hg9 hz9))
  refine bodyPost_ret (results_cell_row rfl _ _ _ 39 _ (0,0) _ rfl hn9 Tryz.underlying39 rfl info34) rfl ?_
  exact⟨by rw[HE1.out],hB3.grown hg9 hB3.size (fun k9 hk9=>by cases hk9;omega)⟩
 ·have hE1:=HEQ.out
  rw[if_pos (by simp)]at hE1
  have hn:=HB1.out (by simp)
  have hm:=HB2.out (by simp)
  obtain⟨k1,hk1⟩:∃k,k=(min (n-1) (G.length:Int)).toNat:=⟨_,rfl⟩
  rw[←hk1]at hE1
  have eq1:min (n-1) (G.length:Int)=(k1:Int):=by omega
  have hk1l:k1≤G.length:=by omega
  obtain⟨r1,hr1⟩:∃r,r=G.length-k1:=⟨_,rfl⟩
  rw[←hr1]at hE1
  obtain⟨k2,hk2⟩:∃k,k=(min m (r1:Int)).toNat:=⟨_,rfl⟩
  rw[←hk2]at hE1
  have eq2:min m (r1:Int)=(k2:Int):=by omega
  have hk2l:k2≤r1:=by omega
  have hL:=HTX.out k1 k2
  have hF:=HFL.out k1 k2
  obtain⟨N3,hN3⟩:∃n,n=G.length:=⟨_,rfl⟩
  have hN3m:(List.map mk G).length=N3:=by rw[List.length_map,hN3]
  rw[←hN3]at eq1 hk1l hr1 hlen
  clear hN3
  have hn1:IntKind.i64.wrap (n-1)=n-1:=by rw[IntKind.wrap_i64];omega
  have hc2:=HS.out _ hB2
  have HE1:=Lib.hid hE1
  have HFT:=Lib.hid hL
  have HFN:=Lib.hid hF
  clear hE1 hL hF hk1 hk2 HEQ HTX HFL HB1 HB2
  go_upto_region 6 with (go_at_call 245;refine(HSG.out _ hB2).mono ?_;rintro e w3 ⟨v3,rfl,hr3,hB3⟩;have hv3:=hv2.below hB3 hv2.lt;have hB3:=hB2.trans (hB3.mono hB2.size))
  have HTX2:=Lib.hid (show ∀W,Below w.heap.size w W→Calls Tryz.prog 240 #[.string (mk ((G.drop k1).take k2).flatten)] W (Gives (.agg (pcs (txtV (mk ((G.drop k1).take k2).flatten)))) W)from fun W hW=>ftext_any _ HFT.out W (HEN.out W hW))
  have hlj:=HFN.out
  rcases hr3.2 with ⟨rfl,h0⟩|⟨g3,c3,cur,rfl,hb3,hc3,hl3,_⟩
  ·rw[hN3m]at h0
   subst h0
   obtain rfl:k1=0:=by omega
   obtain rfl:r1=0:=by omega
   obtain rfl:k2=0:=by omega
   have em1:min (n-1) 0=0:=by omega
   have em2:min m 0=0:=by omega
   have HJ:=Lib.hid (fun W=>Tryz.strings_Join_none none 0 ⟨#[]⟩ W)
   have e0:(((G.drop 0).take 0).flatten)= []:=by simp
   rw[e0]at HTX2 HE1
   clear eq1 eq2 hr3 e0 hlj hN3m hk1l hk2l hlen hr1 hn hm
   go_wp2_with (first|(go_at_call 246;refine(HJ.out _).mono ?_;rintro e w4 ⟨rfl,rfl⟩;have hv4:=hv3;have hB4:=hB3)|(go_at_call 240;refine(HTX2.out _ hB4).mono ?_;rintro e w5 ⟨rfl,hB5⟩;have hv5:=hv4.below hB5 hv4.lt;have hB5:=hB4.trans (hB5.mono hB4.size))|(refine wpList_store34 rfl rfl rfl rfl hv5 (by rfl) (pcs_one _) ?_;intro w9 hn9 hg9 hz9))
   refine bodyPost_ret (results_cell_row rfl _ _ _ 39 _ (0,0) _ rfl hn9 Tryz.underlying39 rfl info34) rfl ?_
   exact⟨by rw[HE1.out],hB5.grown hg9 hB5.size (fun k9 hk9=>by cases hk9;omega)⟩
  ·have hcs3:∀(j:Nat) (x:ByteArray),(List.map mk G)[j]? =some x→w3.cell? ⟨g3,j,none⟩=some (.string x):=fun j x hj=>by
    have:=World.ownsRow.cells hr3 (g:=g3) rfl j (.string x) (by rw[List.getElem?_map,hj];rfl)
    rw[add_at,Nat.zero_add]at this
    exact this
   have hg3:=(Array.getElem?_eq_some_iff.1 hc3).1
   rw[hN3m]at hl3⊢
   have hkI:(k1:Int)≤(N3:Int):=by omega
   have hNI:(N3:Int)≤(c3:Int):=by omega
   have hkc:(k1:Int)≤(c3:Int):=by omega
   have hr1I:(r1:Int)≤((c3-k1:Nat):Int):=by omega
   have hk2I:(k2:Int)≤((c3-k1:Nat):Int):=by omega
   obtain⟨o,ho,hoe⟩:∃o,(if c3=k1 then some (⟨g3,0,none⟩:Addr)else some ⟨g3,k1,none⟩)=some ⟨g3,o,none⟩∧(k2≠0→o=k1):=by
    by_cases h:c3=k1
    ·exact⟨0,if_pos h,fun h2=>by omega⟩
    ·exact⟨k1,if_neg h,fun _=>rfl⟩
   have HJ:Hid (Calls Tryz.prog 246 #[.slice (some ⟨g3,o,none⟩) k2 (c3-k1),.string ⟨#[]⟩] w3 (Gives (.string (mk ((G.drop k1).take k2).flatten)) w3)):=Lib.hid (by
    have hxl:(((G.map mk).drop k1).take k2).length=k2:=by rw[List.length_take,List.length_drop,hN3m];omega
    have hxm:(((G.map mk).drop k1).take k2).map (·.data.toList)=(G.drop k1).take k2:=by
     rw[List.map_take,List.map_drop,List.map_map]
     have:((fun x:ByteArray=>x.data.toList) ∘ mk)=id:=by funext l;simp[mk]
     rw[this,List.map_id]
    have h:=Tryz.strings_Join g3 o (c3-k1) (((G.map mk).drop k1).take k2) ⟨#[]⟩ w3 (fun j x hj=>by
     have hj2:=(List.getElem?_eq_some_iff.1 hj).1
     rw[hoe (by omega)]
     rw[List.getElem?_take,if_pos (by omega),List.getElem?_drop]at hj
     exact hcs3 _ _ hj) hg3 (by omega) (by omega) (by
     rw[hxm]
     show(Lib.join _ []).length≤_
     rw[join_flat];omega)
    rw[hxl,hxm]at h
    refine h.mono ?_
    rintro e w' ⟨rfl,hb⟩
    refine⟨?_,hb⟩
    show Ending.returned (.string ⟨(Lib.join _ []).toArray⟩)=_
    rw[join_flat];rfl)
   have hr1s:=hr1.symm
   clear hc2 hr1 hr3 hcs3 hc3 hlj
   go_upto_region 7 with fail
   clear ho
   go_wp2_with (first|(go_at_call 246;refine HJ.out.mono ?_;rintro e w4 ⟨rfl,hB4⟩;have hv4:=hv3.below hB4 hv3.lt;have hB4:=hB3.trans (hB4.mono hB3.size))|(go_at_call 240;refine(HTX2.out _ hB4).mono ?_;rintro e w5 ⟨rfl,hB5⟩;have hv5:=hv4.below hB5 hv4.lt;have hB5:=hB4.trans (hB5.mono hB4.size))|(refine wpList_store34 rfl rfl rfl rfl hv5 (by rfl) (pcs_one _) ?_;intro w9 hn9 hg9 hz9))
   refine bodyPost_ret (results_cell_row rfl _ _ _ 39 _ (0,0) _ rfl hn9 Tryz.underlying39 rfl info34) rfl ?_
   exact⟨by rw[HE1.out],hB5.grown hg9 hB5.size (fun k9 hk9=>by cases hk9;omega)⟩
end Go.Proofs.YtmhfioimgllgeaaGreatDoor
namespace Go.Proofs.YtmhfioimgllgeaaGreatDoor
open Go Go.RowKit Go.Shelf Go.Lib
theorem text_open {l:List UInt8} (hl:l≠ []) (h:isTextL l=true):0<sgnL l∧oddB (l.getD 0 0)=false∧isTextL (l.drop (sgnL l))=true∧wid l=sgnL l:=by
 rw[isTextL_step l hl]at h
 split at h
 ·cases h
 ·rename_i hs
  have h0:0<sgnL l:=Nat.pos_of_ne_zero fun e=>hs (.inl e)
  refine⟨h0,?_,h,?_⟩
  ·cases e:oddB (l.getD 0 0)with
   |false=>rfl
   |true=>exact absurd (.inr e) hs
  ·unfold wid;rw[if_neg (by omega)]
theorem sgs_app :∀(n:Nat) (a b:List UInt8),a.length≤n→isTextL a=true→sgs (a++b)=sgs a++sgs b
 |0,a,b,h,_=>by
  have:a= []:=List.eq_nil_of_length_eq_zero (by omega)
  subst this;rfl
 |n+1,a,b,h,ht=>by
  by_cases ha:a= []
  ·subst ha;rfl
  ·obtain⟨h0,_,h2,h3⟩:=text_open ha ht
   have hle:=sgnL_le a
   have e:wid (a++b)=sgnL a:=by unfold wid;rw[sgnL_app b h0,if_neg (by omega)]
   rw[sgs_cons (by simp[ha]),sgs_cons ha,e,h3,List.take_append_of_le_length hle,List.drop_append_of_le_length hle,sgs_app n _ b (by rw[List.length_drop];omega) h2]
   rfl
theorem cont_not {l:List UInt8} (h:128≤(l.getD 0 0).toNat) (h2:(l.getD 0 0).toNat≤191):sgnL l=0:=by
 unfold sgnL sgnN
 by_cases hz:l.length=0
 ·rw[if_pos hz]
 ·rw[if_neg hz,if_neg (by omega),if_neg (by omega),if_neg (by omega),if_neg (by omega)]
theorem sgnN_cont {n b0 b1 b2 b3:Nat}:(2≤sgnN n b0 b1 b2 b3→128≤b1∧b1≤191)∧(3≤sgnN n b0 b1 b2 b3→128≤b2∧b2≤191)∧(4≤sgnN n b0 b1 b2 b3→128≤b3∧b3≤191):=by
 obtain⟨lo2,hlo2⟩:∃lo,(if b0=224 then 160 else 128)=lo:=⟨_,rfl⟩
 obtain⟨hi2,hhi2⟩:∃hi,(if b0=237 then 159 else 191)=hi:=⟨_,rfl⟩
 obtain⟨lo3,hlo3⟩:∃lo,(if b0=240 then 144 else 128)=lo:=⟨_,rfl⟩
 obtain⟨hi3,hhi3⟩:∃hi,(if b0=244 then 143 else 191)=hi:=⟨_,rfl⟩
 have g1:128≤lo2:=by split at hlo2<;>omega
 have g2:hi2≤191:=by split at hhi2<;>omega
 have g3:128≤lo3:=by split at hlo3<;>omega
 have g4:hi3≤191:=by split at hhi3<;>omega
 have e:sgnN n b0 b1 b2 b3=if n=0 then 0 else if b0<128 then 1
  else if 194≤b0∧b0≤223 then(if 2≤n∧128≤b1∧b1≤191 then 2 else 0)
  else if 224≤b0∧b0≤239 then(if 3≤n∧lo2≤b1∧b1≤hi2∧128≤b2∧b2≤191 then 3 else 0)
  else if 240≤b0∧b0≤244 then(if 4≤n∧lo3≤b1∧b1≤hi3∧(128≤b2∧b2≤191)∧128≤b3∧b3≤191 then 4 else 0)else 0:=by
  rw[←hlo2,←hhi2,←hlo3,←hhi3];rfl
 rw[e]
 clear e hlo2 hhi2 hlo3 hhi3
 repeat' split
 all_goals omega
theorem sgnL_cont {l:List UInt8} {i:Nat} (h0:0<i) (hi:i<sgnL l):128≤(l.getD i 0).toNat∧(l.getD i 0).toNat≤191:=by
 have h4:=sgnL_le4 l
 have hc:= @sgnN_cont l.length (l.getD 0 0).toNat (l.getD 1 0).toNat (l.getD 2 0).toNat (l.getD 3 0).toNat
 have e:sgnN l.length (l.getD 0 0).toNat (l.getD 1 0).toNat (l.getD 2 0).toNat (l.getD 3 0).toNat=sgnL l:=rfl
 rw[e]at hc
 obtain rfl|rfl|rfl:i=1∨i=2∨i=3:=by omega
 ·exact hc.1 (by omega)
 ·exact hc.2.1 (by omega)
 ·exact hc.2.2 (by omega)
/-- What stands ahead of a text in a text is one. -/
theorem pre_text :∀(n:Nat) (p m q:List UInt8),p.length≤n→m≠ []→isTextL m=true→isTextL (p++(m++q))=true→isTextL p=true
 |0,p,m,q,h,_,_,_=>by
  have:p= []:=List.eq_nil_of_length_eq_zero (by omega)
  subst this;rfl
 |n+1,p,m,q,h,hm,hmt,hx=>by
  by_cases hp:p= []
  ·subst hp;rfl
  ·obtain⟨h0,h1,h2,_⟩:=text_open (l:=p++(m++q)) (by simp[hp]) hx
   have hpl:=List.length_pos_iff.2 hp
   by_cases hk:sgnL (p++(m++q))≤p.length
   ·obtain⟨k,hk2⟩:∃k,k=sgnL (p++(m++q)):=⟨_,rfl⟩
    have ht:=sgnL_take h0
    rw[←hk2]at hk h0 h2 ht
    rw[List.take_append_of_le_length hk]at ht
    rw[List.drop_append_of_le_length hk]at h2
    have hsp:sgnL p=k:=by
     have:=sgnL_app (a:=p.take k) (p.drop k) (by omega)
     rw[List.take_append_drop,ht]at this
     exact this
    have hd:=pre_text n (p.drop k) m q (by rw[List.length_drop];omega) hm hmt h2
    rw[getD_app hpl]at h1
    rw[isTextL_step p hp,if_neg (by rw[h1,hsp];simp;omega),hsp]
    exact hd
   ·exfalso
    have hc:=sgnL_cont (l:=p++(m++q)) (i:=p.length) hpl (by omega)
    have e:(p++(m++q)).getD p.length 0=m.getD 0 0:=by
     have hml:=List.length_pos_iff.2 hm
     simp only[List.getD_eq_getElem?_getD]
     rw[List.getElem?_append_right (Nat.le_refl _),Nat.sub_self,List.getElem?_append_left hml]
    rw[e]at hc
    have:=cont_not hc.1 hc.2
    obtain⟨h3,_⟩:=text_open hm hmt
    omega
theorem least_of {P:Nat→Bool}:∀(n:Nat),P n=true→∃i,i≤n∧P i=true∧∀j,j<i→P j=false
 |0,h=>⟨0,Nat.le_refl _,h,fun j hj=>by omega⟩
 |n+1,h=>by
  by_cases hc:∃j,j≤n∧P j=true
  ·obtain⟨j,hj,hp⟩:=hc
   obtain⟨i,hi,h1,h2⟩:=least_of j hp
   exact⟨i,by omega,h1,h2⟩
  ·refine⟨n+1,Nat.le_refl _,h,fun j hj=> ?_⟩
   cases e:P j with
   |false=>rfl
   |true=>exact absurd ⟨j,by omega,e⟩ hc
termination_by n=>n
decreasing_by omega
theorem occ_split {s sub:List UInt8} {i:Nat} (h:occAt s sub i=true):∃q,s=s.take i++(sub++q):=by
 unfold occAt at h
 obtain⟨q,hq⟩:=List.isPrefixOf_iff_prefix.1 h
 exact⟨q,by rw[hq,List.take_append_drop]⟩
/-- A text is found in what it stands behind, at a sign of that. -/
theorem find_at (l m:List UInt8) (hl:isTextL l=true) (hm:isTextL m=true):∃(i:Nat) (q:List UInt8),index (l++m) m=(i:Int)∧i≤l.length∧l++m=l.take i++(m++q)∧isTextL (l.take i)=true:=by
 have h0:occAt (l++m) m l.length=true:=by
  unfold occAt
  rw[List.drop_left]
  exact List.isPrefixOf_iff_prefix.2 (List.prefix_refl _)
 obtain⟨i,hi,h1,h2⟩:=least_of (P:=fun i=>occAt (l++m) m i) l.length h0
 have hx:=index_first (s:=l++m) (sub:=m) (i:=i) (by rw[List.length_append];omega) h1 h2
 obtain⟨q,hq⟩:=occ_split h1
 rw[List.take_append_of_le_length hi]at hq
 refine⟨i,q,hx,hi,hq,?_⟩
 by_cases hm0:m= []
 ·subst hm0
  have:i=0:=by
   rcases Nat.eq_zero_or_pos i with h|h
   ·exact h
   ·have:=h2 0 h
    simp[occAt]at this
  subst this;rfl
 ·refine pre_text _ (l.take i) m q (Nat.le_refl _) hm0 hm ?_
  rw[←hq]
  exact isTextL_app _ _ _ (Nat.le_refl _) hl hm
theorem sgs_take_le {l:List UInt8} {i:Nat} (h:isTextL (l.take i)=true):(sgs (l.take i)).length≤(sgs l).length:=by
 have:=sgs_app _ (l.take i) (l.drop i) (Nat.le_refl _) h
 rw[List.take_append_drop]at this
 rw[this,List.length_append]
 omega
theorem rc_from (s:ByteArray):∀(f pos:Nat),s.size-pos≤f→pos≤s.size→runeCountFrom s f pos=(sgs (s.data.toList.drop pos)).length
 |0,pos,h,h'=>by
  have:s.data.toList.drop pos= []:=List.drop_eq_nil_of_le (by rw[←size_eq];omega)
  rw[this];rfl
 |f+1,pos,h,h'=>by
  by_cases c:pos<s.size
  ·obtain⟨l,hl⟩:∃l,s.data.toList.drop pos=l:=⟨_,rfl⟩
   have hne:l≠ []:=by rw[←hl];intro e;have:=congrArg List.length e;rw[List.length_drop,←size_eq]at this;simp at this;omega
   have hlen:l.length=s.size-pos:=by rw[←hl,List.length_drop,←size_eq]
   have hd:(Utf8.decode s pos).2=wid l:=by
    rw[←decodeL_drop,hl]
    unfold wid
    rcases sgnL_decode l hne with ⟨h1,h2⟩|⟨h1,_,h2⟩|⟨h1,_,h2,_⟩
    ·rw[h2,if_pos h1]
    ·rw[h2,if_neg (by omega),h1]
    ·rw[h2,if_neg (by omega)]
   have hw:=wid_le hne
   have hr:=rc_from s f (pos+wid l) (by omega) (by omega)
   rw[←List.drop_drop,hl]at hr
   rw[runeCountFrom,if_pos c,hd,hr,hl,sgs_cons hne,List.length_cons]
   omega
  ·have:s.data.toList.drop pos= []:=List.drop_eq_nil_of_le (by rw[←size_eq];omega)
   rw[this,runeCountFrom_end _ _ _ c];rfl
theorem rc_sgs (s:ByteArray):runeCount s=(sgs s.data.toList).length:=by
 have:=rc_from s s.size 0 (by omega) (by omega)
 rwa [List.drop_zero]at this
def casR (a b:Nat) (r:Nat):Nat:=if a≤r∧r<a+26 then r+b-a else r
def casB (a b:Nat) (c:UInt8):UInt8:=(casR a b c.toNat).toUInt8
def casL (a b:Nat) (l:List UInt8):List UInt8:=l.map (casB a b)
def Cased (a b:Nat):Prop:=(a=97∧b=65)∨(a=65∧b=97)
theorem casR_lo {a b r:Nat} (h:Cased a b) (hr:r<128):casR a b r<128:=by
 unfold casR
 rcases h with ⟨rfl,rfl⟩|⟨rfl,rfl⟩<;>split<;>omega
theorem casR_hi {a b r:Nat} (h:Cased a b) (hr:128≤r):casR a b r=r:=by
 unfold casR
 rcases h with ⟨rfl,rfl⟩|⟨rfl,rfl⟩<;>rw[if_neg (by omega)]
theorem casB_nat {a b:Nat} (h:Cased a b) (c:UInt8):(casB a b c).toNat=casR a b c.toNat:=by
 have hc:=UInt8.toNat_lt c
 have:casR a b c.toNat<256:=by
  by_cases h1:c.toNat<128
  ·have:=casR_lo h h1;omega
  ·rw[casR_hi h (by omega)];omega
 unfold casB
 rw[UInt8.toNat_ofNat']
 omega
theorem casB_hi {a b:Nat} (h:Cased a b) {c:UInt8} (hc:128≤c.toNat):casB a b c=c:=by
 apply UInt8.toNat_inj.1
 rw[casB_nat h,casR_hi h hc]
theorem enc_dec {n b0 b1 b2 b3:Nat} (hn:1≤n) (h0:b0<256) (h1:b1<256) (h2:b2<256) (h3:b3<256) (h:2≤sgnN n b0 b1 b2 b3):
 encodeRuneZ ((decodeN n b0 b1 b2 b3).1:Int)=([(b0:Int),b1,b2,b3]).take (sgnN n b0 b1 b2 b3):=by
 have hz:¬n=0:=by omega
 have a0:¬b0<128:=fun c=>by simp[sgnN,hz,c]at h
 by_cases a1:194≤b0∧b0≤223
 ·have e:sgnN n b0 b1 b2 b3=if 2≤n∧128≤b1∧b1≤191 then 2 else 0:=by simp[sgnN,hz,a0,a1]
  have c:2≤n∧128≤b1∧b1≤191:=by
   rw[e]at h
   split at h
   ·assumption
   ·omega
  have d:decodeN n b0 b1 b2 b3=(b0%32*64+b1%64,2):=by
   unfold decodeN
   rw[if_neg a0,if_pos (by omega),if_pos (by omega)]
  rw[e,if_pos c,d,encodeRuneZ_two (by show(128:Int)≤((b0%32*64+b1%64:Nat):Int);omega) (by show((b0%32*64+b1%64:Nat):Int)≤2047;omega)]
  show [192+((b0%32*64+b1%64:Nat):Int) / 64,128+((b0%32*64+b1%64:Nat):Int)%64]= [(b0:Int),b1]
  have r1:192+((b0%32*64+b1%64:Nat):Int) / 64=b0:=by omega
  have r2:128+((b0%32*64+b1%64:Nat):Int)%64=b1:=by omega
  rw[r1,r2]
 by_cases a2:224≤b0∧b0≤239
 ·obtain⟨lo,hlo⟩:∃lo,(if b0=224 then 160 else 128)=lo:=⟨_,rfl⟩
  obtain⟨hi,hhi⟩:∃hi,(if b0=237 then 159 else 191)=hi:=⟨_,rfl⟩
  have e:sgnN n b0 b1 b2 b3=if 3≤n∧lo≤b1∧b1≤hi∧128≤b2∧b2≤191 then 3 else 0:=by
   unfold sgnN
   rw[if_neg hz,if_neg a0,if_neg a1,if_pos a2,hlo,hhi]
  have c:3≤n∧lo≤b1∧b1≤hi∧128≤b2∧b2≤191:=by
   rw[e]at h
   split at h
   ·assumption
   ·omega
  have b1':(b0=224∧lo=160)∨(b0≠224∧lo=128):=by split at hlo<;>omega
  have b2':(b0=237∧hi=159)∨(b0≠237∧hi=191):=by split at hhi<;>omega
  have d:decodeN n b0 b1 b2 b3=(b0%16*4096+b1%64*64+b2%64,3):=by
   unfold decodeN
   rw[if_neg a0,if_neg (by omega),if_pos (by omega),if_pos (by omega)]
  rw[e,if_pos c,d,encodeRuneZ_three (by show(2048≤((b0%16*4096+b1%64*64+b2%64:Nat):Int)∧((b0%16*4096+b1%64*64+b2%64:Nat):Int)<55296)∨(57343<((b0%16*4096+b1%64*64+b2%64:Nat):Int)∧((b0%16*4096+b1%64*64+b2%64:Nat):Int)≤65535);omega)]
  show [224+((b0%16*4096+b1%64*64+b2%64:Nat):Int) / 4096,128+((b0%16*4096+b1%64*64+b2%64:Nat):Int) / 64%64,128+((b0%16*4096+b1%64*64+b2%64:Nat):Int)%64]= [(b0:Int),b1,b2]
  have r1:224+((b0%16*4096+b1%64*64+b2%64:Nat):Int) / 4096=b0:=by omega
  have r2:128+((b0%16*4096+b1%64*64+b2%64:Nat):Int) / 64%64=b1:=by omega
  have r3:128+((b0%16*4096+b1%64*64+b2%64:Nat):Int)%64=b2:=by omega
  rw[r1,r2,r3]
 by_cases a3:240≤b0∧b0≤244
 ·obtain⟨lo,hlo⟩:∃lo,(if b0=240 then 144 else 128)=lo:=⟨_,rfl⟩
  obtain⟨hi,hhi⟩:∃hi,(if b0=244 then 143 else 191)=hi:=⟨_,rfl⟩
  have e:sgnN n b0 b1 b2 b3=if 4≤n∧lo≤b1∧b1≤hi∧(128≤b2∧b2≤191)∧128≤b3∧b3≤191 then 4 else 0:=by
   unfold sgnN
   rw[if_neg hz,if_neg a0,if_neg a1,if_neg a2,if_pos a3,hlo,hhi]
  have c:4≤n∧lo≤b1∧b1≤hi∧(128≤b2∧b2≤191)∧128≤b3∧b3≤191:=by
   rw[e]at h
   split at h
   ·assumption
   ·omega
  have b1':(b0=240∧lo=144)∨(b0≠240∧lo=128):=by split at hlo<;>omega
  have b2':(b0=244∧hi=143)∨(b0≠244∧hi=191):=by split at hhi<;>omega
  have d:decodeN n b0 b1 b2 b3=(b0%8*262144+b1%64*4096+b2%64*64+b3%64,4):=by
   unfold decodeN
   rw[if_neg a0,if_neg (by omega),if_neg (by omega),if_pos (by omega),if_pos (by omega)]
  obtain⟨r,hr⟩:∃r,r=b0%8*262144+b1%64*4096+b2%64*64+b3%64:=⟨_,rfl⟩
  rw[e,if_pos c,d,←hr,encodeRuneZ_four (by show(65536:Int)≤(r:Int);omega) (by show(r:Int)≤1114111;omega)]
  show [240+(r:Int) / 262144,128+(r:Int) / 4096%64,128+(r:Int) / 64%64,128+(r:Int)%64]= [(b0:Int),b1,b2,b3]
  have r1:240+(r:Int) / 262144=b0:=by omega
  have r2:128+(r:Int) / 4096%64=b1:=by omega
  have r3:128+(r:Int) / 64%64=b2:=by omega
  have r4:128+(r:Int)%64=b3:=by omega
  rw[r1,r2,r3,r4]
 ·simp[sgnN,hz,a0,a1,a2,a3]at h
theorem take_getD :∀(l:List UInt8) (k:Nat),k≤4→k≤l.length→l.take k= [l.getD 0 0,l.getD 1 0,l.getD 2 0,l.getD 3 0].take k
 |_,0,_,_=>rfl
 | [],k+1,_,h=>by simp at h
 | [a],k+1,_,h=>by
  obtain rfl:k=0:=by simp at h;omega
  rfl
 | [a,b],k+1,_,h=>by
  obtain rfl|rfl:k=0∨k=1:=by simp at h;omega
  all_goals rfl
 | [a,b,c],k+1,_,h=>by
  obtain rfl|rfl|rfl:k=0∨k=1∨k=2:=by simp at h;omega
  all_goals rfl
 |a :: b :: c :: d :: l,k+1,h4,_=>by
  obtain rfl|rfl|rfl|rfl:k=0∨k=1∨k=2∨k=3:=by omega
  all_goals rfl
theorem casL_high {a b:Nat} (h:Cased a b) {l:List UInt8} (h1:2≤sgnL l):casL a b (l.take (sgnL l))=l.take (sgnL l):=by
 have hk:=sgnL_le4 l
 have h2:=sgnL_le l
 have hl:l≠ []:=by intro e;subst e;simp at h2;omega
 have h5:128≤(l.getD 0 0).toNat:=by
  rcases sgnL_decode l hl with ⟨h1,_⟩|⟨h1,_,_⟩|⟨_,_,_,_,h5⟩
  ·omega
  ·omega
  ·exact h5
 rw[take_getD l _ hk h2]
 unfold casL
 have c1:casB a b (l.getD 0 0)=l.getD 0 0:=casB_hi h h5
 have c2:2≤sgnL l→casB a b (l.getD 1 0)=l.getD 1 0:=fun hh=>casB_hi h (sgnL_cont (i:=1) (by omega) (by omega)).1
 have c3:3≤sgnL l→casB a b (l.getD 2 0)=l.getD 2 0:=fun hh=>casB_hi h (sgnL_cont (i:=2) (by omega) (by omega)).1
 have c4:4≤sgnL l→casB a b (l.getD 3 0)=l.getD 3 0:=fun hh=>casB_hi h (sgnL_cont (i:=3) (by omega) (by omega)).1
 generalize sgnL l=k at*
 obtain rfl|rfl|rfl:k=2∨k=3∨k=4:=by omega
 ·simp only[List.take_succ_cons,List.take_zero,List.map_cons,List.map_nil,c1,c2 (by omega)]
 ·simp only[List.take_succ_cons,List.take_zero,List.map_cons,List.map_nil,c1,c2 (by omega),c3 (by omega)]
 ·simp only[List.take_succ_cons,List.take_zero,List.map_cons,List.map_nil,c1,c2 (by omega),c3 (by omega),c4 (by omega)]
/-- A sign, written with its letter turned. -/
theorem cas_sign {a b:Nat} (h:Cased a b) {l:List UInt8} (hl:l≠ []) (h0:0<sgnL l):encodeRune ((casR a b (decodeL l).1:Nat):Int)=casL a b (l.take (sgnL l)):=by
 have hn:=List.length_pos_iff.2 hl
 rcases sgnL_decode l hl with ⟨h1,_⟩|⟨h1,h2,h3⟩|⟨h1,h2,h3,h4,h5⟩
 ·omega
 ·have h6:=casR_lo h h2
  rw[h3,h1,take_getD l 1 (by omega) (by omega)]
  show encodeRune ((casR a b (l.getD 0 0).toNat:Nat):Int)= [casB a b (l.getD 0 0)]
  unfold encodeRune
  rw[encodeRuneZ_one (by omega) (by omega)]
  rfl
 ·rw[casR_hi h h4]
  have hk:=sgnL_le4 l
  have he:encodeRuneZ (((decodeL l).1:Nat):Int)=([((l.getD 0 0).toNat:Int),(l.getD 1 0).toNat,(l.getD 2 0).toNat,(l.getD 3 0).toNat]).take (sgnL l):=by
   rw[decodeL_N]
   exact enc_dec (by omega) (UInt8.toNat_lt _) (UInt8.toNat_lt _) (UInt8.toNat_lt _) (UInt8.toNat_lt _) h1
  have hm:=casL_high h h1
  rw[hm]
  unfold encodeRune
  rw[he,take_getD l _ hk h2,List.map_take]
  have z:∀c:UInt8,((c.toNat:Int).toNat.toUInt8)=c:=fun c=>by
   rw[Int.toNat_natCast]
   apply UInt8.toNat_inj.1
   rw[UInt8.toNat_ofNat']
   have:=UInt8.toNat_lt c
   omega
  simp only[List.map_cons,List.map_nil,z]
theorem casL_app (a b:Nat) (l m:List UInt8):casL a b (l++m)=casL a b l++casL a b m:=List.map_append
theorem casL_len (a b:Nat) (l:List UInt8):(casL a b l).length=l.length:=List.length_map _
theorem sgnN_lo1 {n b0 b1 b2 b3:Nat} (hn:1≤n) (h:b0<128):sgnN n b0 b1 b2 b3=1:=by
 unfold sgnN
 rw[if_neg (by omega),if_pos h]
theorem casB_odd {a b:Nat} (h:Cased a b) (c:UInt8):oddB (casB a b c)=oddB c:=by
 unfold oddB
 rw[casB_nat h]
 unfold casR
 have e1:(decide ((if a≤c.toNat∧c.toNat<a+26 then c.toNat+b-a else c.toNat)<32))=decide (c.toNat<32):=by
  rcases h with ⟨rfl,rfl⟩|⟨rfl,rfl⟩<;>split<;>(apply decide_eq_decide.2;omega)
 have e2:((if a≤c.toNat∧c.toNat<a+26 then c.toNat+b-a else c.toNat)==127)=(c.toNat==127):=by
  rcases h with ⟨rfl,rfl⟩|⟨rfl,rfl⟩<;>split<;>(first|rfl|(rw[Bool.eq_iff_iff,beq_iff_eq,beq_iff_eq];omega))
 rw[e1,e2]
theorem cas_sgn {a b:Nat} (h:Cased a b) {l:List UInt8} (h0:0<sgnL l):sgnL (casL a b l)=sgnL l:=by
 have hle:=sgnL_le l
 have hl:l≠ []:=by intro e;subst e;simp at hle;omega
 rcases sgnL_decode l hl with ⟨h1,_⟩|⟨h1,h2,_⟩|⟨h1,h2,_,_,h5⟩
 ·omega
 ·rw[h1]
  obtain⟨c,t,rfl⟩:∃c t,l=c :: t:=by cases l with|nil=>exact absurd rfl hl|cons c t=>exact⟨c,t,rfl⟩
  unfold sgnL
  refine sgnN_lo1 (by rw[casL_len];simp) ?_
  show(casB a b c).toNat<128
  rw[casB_nat h]
  exact casR_lo h h2
 ·have e:casL a b l=l.take (sgnL l)++casL a b (l.drop (sgnL l)):=by
   have h6:=casL_high h h1
   rw[←h6,←casL_app,List.take_append_drop]
  rw[e,sgnL_app _ (by rw[sgnL_take h0];omega),sgnL_take h0]
theorem cas_text {a b:Nat} (h:Cased a b):∀(n:Nat) (l:List UInt8),l.length≤n→isTextL l=true→isTextL (casL a b l)=true∧(sgs (casL a b l)).length=(sgs l).length
 |0,l,hn,_=>by
  have:l= []:=List.eq_nil_of_length_eq_zero (by omega)
  subst this;exact⟨rfl,rfl⟩
 |n+1,l,hn,ht=>by
  by_cases hl:l= []
  ·subst hl;exact⟨rfl,rfl⟩
  ·obtain⟨h0,h1,h2,h3⟩:=text_open hl ht
   have hle:=sgnL_le l
   have hs:=cas_sgn h h0
   have hne:casL a b l≠ []:=by intro e;have:=congrArg List.length e;rw[casL_len]at this;exact hl (List.eq_nil_of_length_eq_zero this)
   have hd:(casL a b l).drop (sgnL l)=casL a b (l.drop (sgnL l)):=by unfold casL;rw[List.map_drop]
   have hg:(casL a b l).getD 0 0=casB a b (l.getD 0 0):=by
    obtain⟨c,t,rfl⟩:∃c t,l=c :: t:=by cases l with|nil=>exact absurd rfl hl|cons c t=>exact⟨c,t,rfl⟩
    rfl
   obtain⟨i1,i2⟩:=cas_text h n (l.drop (sgnL l)) (by rw[List.length_drop];omega) h2
   have hw:wid (casL a b l)=sgnL l:=by unfold wid;rw[hs,if_neg (by omega)]
   refine⟨?_,?_⟩
   ·rw[isTextL_step _ hne,hs,hg,casB_odd h,if_neg (by rw[h1];simp;omega),hd];exact i1
   ·rw[sgs_cons hne,sgs_cons hl,hw,h3,hd,List.length_cons,List.length_cons,i2]
theorem up_low (l:List UInt8):casL 97 65 (casL 65 97 l)=casL 97 65 l:=by
 unfold casL
 rw[List.map_map]
 refine List.map_congr_left fun c _=> ?_
 show casB 97 65 (casB 65 97 c)=casB 97 65 c
 apply UInt8.toNat_inj.1
 rw[casB_nat (.inl ⟨rfl,rfl⟩),casB_nat (.inl ⟨rfl,rfl⟩),casB_nat (.inr ⟨rfl,rfl⟩)]
 unfold casR
 split<;>split<;>(try split)<;>omega
end Go.Proofs.YtmhfioimgllgeaaGreatDoor
