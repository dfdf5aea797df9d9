/- Merged: Whl, Rou. -/
import Derived.Test.YtmhfioimgllgeaaGreatDoorU01
import Derived.Test.YtmhfioimgllgeaaGreatDoorU44
import Derived.Test.YtmhfioimgllgeaaGreatDoorU38
namespace Go.Proofs.YtmhfioimgllgeaaGreatDoor
open Go Go.RowKit Go.Shelf
theorem floorD_bd (M E:Int): -1000000000000000≤(floorD M E).1∧(floorD M E).1≤1000000000000000:=by
 unfold floorD
 split
 ·unfold floorR
  split
  ·rename_i h
   have h:=q15 h
   split<;>simp only<;>omega
  ·simp
 ·simp
def whN (x:Vl):Int:=(floorD x.m x.e).1
def whB (x:Vl):Bool:=x.k==1&&((floorD x.m x.e).2==0&&((ofD (whN x)).2==0&&((ofD (whN x)).1.1==x.m&&(ofD (whN x)).1.2==x.e)))
def whR (x:Vl) (lo hi:Int):Bool:=whB x&&(decide (lo≤whN x)&&decide (whN x≤hi))
def WholePost (x:Vl) (lo hi:Int) (w:World) (e:Ending) (w':World):Prop:=e= .returned (.tuple #[.int .i64 (whN x),.bool (whR x lo hi)])∧Below w.heap.size w w'
set_option maxRecDepth 100000 in
set_option maxHeartbeats 8000000 in
theorem wholeF_any (x:Vl) (lo hi:Int) (C:Array Value) (w:World) (h0:C[0]? =some (.int .i64 x.k)) (h1:C[1]? =some (.int .i64 x.m)) (h2:C[2]? =some (.int .i64 x.e)) (hO:OneC C) (hb: -9223372036854775808≤x.m∧x.m≤9223372036854775807):Calls Tryz.prog 128 #[.agg C,.int .i64 lo,.int .i64 hi] w (WholePost x lo hi w):=by
 have hv0:World.vb (w.alloc (.cells C 39)) w.heap.size C:=World.vb_new w C
 have hB0:Below w.heap.size w (w.alloc (.cells C 39)):=(Below.refl _ w).alloc (Nat.le_refl _) _
 have HF:=Lib.hid (fun W=>floor_any x.m x.e W hb.1 hb.2)
 have hfb:=floorD_bd x.m x.e
 have HD:=Lib.hid (fun W=>of_n (floorD x.m x.e).1 W (by omega) (by omega))
 have hdc:∀W,World.vb W w.heap.size C→∀(j:Nat) (u:Value),(#[.int .i64 x.m,.int .i64 x.e]:Array Value)[j]? =some u→W.cell? ⟨w.heap.size,1+j,none⟩=some u:=by
  intro W hW j u hj
  match j,hj with
  |0,hj=>rw[←hj];exact hW.cell h1
  |1,hj=>rw[←hj];exact hW.cell h2
  |j+2,hj=>simp at hj
 have HDC:=Lib.hid hdc
 unfold WholePost whR whB whN
 obtain⟨R,hR⟩:∃R,R=floorD x.m x.e:=⟨_,rfl⟩
 rw[←hR]at HF HD⊢
 obtain⟨n,e1⟩:=R
 obtain⟨P,hP⟩:∃P,P=ofD n:=⟨_,rfl⟩
 simp only at HD⊢
 rw[←hP]at HD⊢
 obtain⟨⟨M,E⟩,e2⟩:=P
 simp only at⊢
 have hcl:C.all (·.oneCell')=true:=hO.2
 clear hdc hR hP hfb
 obtain⟨K,k0⟩:∃k,k=x.k:=⟨_,rfl⟩
 obtain⟨XM,xm⟩:∃k,k=x.m:=⟨_,rfl⟩
 obtain⟨XE,xe⟩:∃k,k=x.e:=⟨_,rfl⟩
 rw[←k0]at h0⊢
 rw[←xm]at h1 HF HDC⊢
 rw[←xe]at h2 HF HDC⊢
 have H0:=Lib.hid h0
 have H1:=Lib.hid h1
 have H2:=Lib.hid h2
 clear k0 xm xe h0 h1 h2 hO hb
 go_enter Tryz.func128,Tryz.ntmps128
 go_upto_region 3 with (first|refine wpList_loadDat rfl rfl rfl rfl (HDC.out _ hv0) ?_|(go_at_call 26;refine(HF.out _).mono ?_;rintro e w1 ⟨rfl,hB1⟩;have hv1:=hv0.below hB1 hv0.lt;have hB:=hB0.trans (hB1.mono hB0.size))|(go_at_call 237;refine(HD.out _).mono ?_;rintro e w2 ⟨rfl,hB2⟩;have hv2:=hv1.below hB2 hv1.lt;have hB:=hB.trans (hB2.mono hB.size))|(refine wpList_storeD rfl rfl rfl rfl (World.dec_new _ _ _ _ rfl) ?_;intro w3 hn3 hg3 hz3))
 have hvx:World.vb w3 w.heap.size C:=vb_but (hv2.alloc _) hg3 (by have:=hv2.lt;omega)
 have hB3:Below w.heap.size w w3:=(hB.alloc hB.size _).grown hg3 (by have:=hB.size;simp;omega) (fun k hk=>by cases hk;exact hB.size)
 have c0:=hvx.cell H0.out
 have c1:=hvx.cell H1.out
 have c2:=hvx.cell H2.out
 have d0:=hn3.c0
 have d1:=hn3.c1
 have HB3:=Lib.hid hB3
 clear hn3 hg3 hz3 hv2 hv1 hv0 hB0 hB hB1 hB2 hB3 hcl HDC HF HD H0 H1 H2 hvx
 go_upto_region 3 with fail
 cases b0:(K==1)
 ·go_wp2_with fail
  refine bodyPost_ret (results_tmp2 rfl _ _ _) rfl ?_
  exact⟨by first|(simp only[];rfl)|simp only[b0,Bool.and_false,Bool.false_and,Bool.and_true,Bool.true_and],HB3.out⟩
 ·cases b1:(e1==0)
  ·go_wp2_with fail
   refine bodyPost_ret (results_tmp2 rfl _ _ _) rfl ?_
   exact⟨by first|(simp only[];rfl)|simp only[b0,b1,Bool.and_false,Bool.false_and,Bool.and_true,Bool.true_and],HB3.out⟩
  ·cases b2:(e2==0)
   ·go_wp2_with fail
    refine bodyPost_ret (results_tmp2 rfl _ _ _) rfl ?_
    exact⟨by first|(simp only[];rfl)|simp only[b0,b1,b2,Bool.and_false,Bool.false_and,Bool.and_true,Bool.true_and],HB3.out⟩
   ·cases b3:(M==XM)
    ·go_wp2_with fail
     refine bodyPost_ret (results_tmp2 rfl _ _ _) rfl ?_
     exact⟨by first|(simp only[];rfl)|simp only[b0,b1,b2,b3,Bool.and_false,Bool.false_and,Bool.and_true,Bool.true_and],HB3.out⟩
    ·cases b4:(E==XE)
     ·go_wp2_with fail
      refine bodyPost_ret (results_tmp2 rfl _ _ _) rfl ?_
      exact⟨by first|(simp only[];rfl)|simp only[b0,b1,b2,b3,b4,Bool.and_false,Bool.false_and,Bool.and_true,Bool.true_and],HB3.out⟩
     ·cases b5:decide (lo≤n)
      ·go_wp2_with fail
       refine bodyPost_ret (results_tmp2 rfl _ _ _) rfl ?_
       exact⟨by first|(simp only[];rfl)|simp only[b0,b1,b2,b3,b4,b5,Bool.and_false,Bool.false_and,Bool.and_true,Bool.true_and],HB3.out⟩
      ·cases b6:decide (n≤hi)
       ·go_wp2_with fail
        refine bodyPost_ret (results_tmp2 rfl _ _ _) rfl ?_
        exact⟨by first|(simp only[];rfl)|simp only[b0,b1,b2,b3,b4,b5,b6,Bool.and_false,Bool.false_and,Bool.and_true,Bool.true_and],HB3.out⟩
       ·go_wp2_with fail
        refine bodyPost_ret (results_tmp2 rfl _ _ _) rfl ?_
        exact⟨by first|(simp only[];rfl)|simp only[b0,b1,b2,b3,b4,b5,b6,Bool.and_false,Bool.false_and,Bool.and_true,Bool.true_and],HB3.out⟩
end Go.Proofs.YtmhfioimgllgeaaGreatDoor
namespace Go.Proofs.YtmhfioimgllgeaaGreatDoor
open Go Go.RowKit Go.Shelf
/-- Behind an append the slice that was appended to has what it had. -/
theorem run_append_keep {P:Program} (w:World) (base:Nat) (t ty e:TypeId) (i:TypeInfo) (z:Value) (size bytes:Nat) (ht:P.underlying t=some (.slice e)) (hi:P.info? e=some i) (hz:i.zero=some z)
 (hsize:i.size=size) (hby:i.bytes=bytes) (hzs:z.cells.size=size) (hsz:0<size)
 (v:Value) (n:Nat) (xs:List Value) (hown:w.ownsRow base e size v n xs)
 (a:Addr) (m c:Nat) (news:List Value) (hl:news.length=m*size) (hnews:∀j u,news[j]? =some u→w.cell? (a.add j)=some u) (h1:∀u∈news,u.oneCell'=true)
 (h63:n+m≤maxLen) (hbytes:(n+m)*bytes≤140737488355328) (hbase:base≤w.heap.size):
 ∃v' w',(Builtin.append_ #[t,t] ty #[v,.slice (some a) m c]).run P w= .ok v' w'∧w'.ownsRow base e size v' (n+m) (xs++news)∧w.grownBy w' v.ownBlock∧w'.ownsRow base e size v n xs:=by
 obtain⟨v',w',hr,h2,h3,_⟩:=run_append_own (P:=P) w base t ty e i z size bytes ht hi hz hsize hby hzs hsz v n xs hown a m c news hl hnews h1 h63 hbytes hbase
 refine⟨v',w',hr,h2,h3,hown.1,?_⟩
 subst hsize
 subst hby
 have hsmall:n+m≤9223372036854775807:=by simp only[maxLen]at h63;omega
 rcases hown.2 with ⟨rfl,rfl⟩|⟨g,cap,cur,rfl,hbg,hg,hnc,hcm,hcs,htake⟩
 ·exact .inl ⟨rfl,rfl⟩
 ·right
  by_cases hroom:n+m≤cap
  ·have hfit:n*i.size+news.length≤cur.size:=by rw[hl,hcs,←Nat.add_mul];exact Nat.mul_le_mul_right _ hroom
   have hr2:=run_append_room (P:=P) w t ty e i ht hi g n cap cur hg a m c news hl hnews h1 hroom hfit
   rw[hr]at hr2
   injection hr2 with _ hw
   subst hw
   refine⟨g,cap,_,rfl,hbg,setRow_heap w g cur _ e _ hg,hnc,hcm,?_,?_⟩
   ·simp only[List.size_toArray,List.length_append,List.length_take,List.length_drop,Array.length_toList]
    omega
   ·rw[htake]
    rw[List.append_assoc]
    have e1:xs.length=n*i.size:=hown.1
    rw[←e1]
    exact List.take_left
  ·have holds:∀j u,xs[j]? =some u→w.cell? ((⟨g,0,none⟩:Addr).add j)=some u:=hown.cells (g:=g) rfl
   have hr2:=run_append_grow (P:=P) w t ty e i z ht hi hz ⟨g,0,none⟩ n cap xs hown.1 holds a m c news hl hnews (by omega) (by omega) (growslice_fits (by omega) hbytes)
   rw[hr]at hr2
   injection hr2 with _ hw
   subst hw
   exact⟨g,cap,cur,rfl,hbg,by rw[heap_alloc_old _ _ (show g<w.drew.heap.size from(Array.getElem?_eq_some_iff.1 hg).1)];exact hg,hnc,hcm,hcs,htake⟩
section
variable {ops : Array Oper} {rest : List Oper} {o : Oper} {a : Act} {w : World} {Q : Exit → Act → World → Prop}
theorem wpList_pushDk {s x:Operand} (hgd:o.guard=none) (ho:o.op= .call {callee:= .builtin .append,args:= #[s,x],argTypes:= #[156,156]})
 {base:Nat} {v:Value} {l:List (Int×Int)} {M E:Int} {g:Nat} (hown:World.dcr w base v l) (hl:l.length≤20000) (hs:a.eval s=v) (hx:a.eval x= .slice (some ⟨g,0,none⟩) 1 1) (hc:World.dec w g M E) (hbase:base≤w.heap.size)
 (h:∀v' w',World.dcr w' base v' (l++ [(M,E)])→w.grownBy w' v.ownBlock→World.dcr w' base v l→wpList Tryz.prog ops Q rest (a.put o.dst v') w'):wpList Tryz.prog ops Q (o :: rest) a w:=
 wpList_plain hgd fun K hK=>by
  obtain⟨i0,hi,hz0,hz1,hz2⟩:=info_parts info34f
  obtain⟨v',w',hr,h1,h2,h3⟩:=run_append_keep (P:=Tryz.prog) w base 156 o.type 34 i0 _ 2 16 Tryz.underlying156 hi hz0 hz1 hz2 rfl (by decide) v l.length _ hown ⟨g,0,none⟩ 1 1 [.int .i64 M,.int .i64 E] rfl (by
   intro j u hj
   rw[add_at,Nat.zero_add]
   unfold World.dec at hc
   rw[cell_of_row w g j _ _ _ hc]
   simpa using hj) (by
   intro u hu
   simp only[List.mem_cons,List.not_mem_nil,or_false]at hu
   rcases hu with rfl|rfl<;>rfl) (by unfold maxLen;omega) (by omega) hbase
  unfold Oper.wp execOp
  simp only[ho,resolve,invoke,builtin,Sem.run_bind,Sem.run_pure,Result.andThen_ok,List.map_toArray,List.map_cons,List.map_nil,hs,hx,hr]
  refine hK _ _ (h v' w' ?_ h2 h3)
  unfold World.dcr
  have e:dsC (l++ [(M,E)])=dsC l++ [.int .i64 M,.int .i64 E]:=by simp[dsC]
  rw[e,List.length_append]
  exact h1
end
/-- ROUND at a number and its places. -/
def rdV (p q:Int×Int):Vl:=if whR (numV q) (-9) 9=true then toldV (roundD p.1 p.2 (whN (numV q))).1 (roundD p.1 p.2 (whN (numV q))).2 else errV 6
def roundV (l:List (Int×Int)):Vl:=rdV (l.getD 0 (0,0)) ((l++ [(0,0)]).getD 1 (0,0))
set_option maxRecDepth 100000 in
set_option maxHeartbeats 8000000 in
/-- ROUND: its own slice of numbers may grow in place: what lies below 'B' stays. -/
theorem round_any127 (l:List (Int×Int)) (hl0:l≠ []) (hl:l.length≤2) (hr:∀p∈l,RightP p) (base:Nat) (v:Value) (w:World) (hd:World.dcr w base v l) (hb:base≤w.heap.size):Calls Tryz.prog 127 #[v] w (fun e w'=>e= .returned (.agg (pcs (roundV l)))∧Below base w w'):=by
 have hB0:Below base w (w.alloc (.cells vz 39)):=(Below.refl _ w).alloc hb _
 have hv0:World.vb (w.alloc (.cells vz 39)) w.heap.size vz:=World.vb_new w vz
 obtain⟨pp,cc,rfl,hpp⟩:=dcr_slice hd
 obtain⟨g,rfl⟩:=hpp hl0
 obtain⟨p,hp⟩:∃p,l[0]? =some p:=⟨_,List.getElem?_eq_getElem (List.length_pos_iff.2 hl0)⟩
 have hN1:1<(l++ [((0:Int),(0:Int))]).length:=by have:=List.length_pos_iff.2 hl0;simp;omega
 obtain⟨q,hq⟩:∃q,(l++ [((0:Int),(0:Int))])[1]? =some q:=⟨_,List.getElem?_eq_getElem hN1⟩
 have hrp:=hr p (List.mem_of_getElem? hp)
 have hrq:RightP q:=by
  rcases List.mem_append.1 (List.mem_of_getElem? hq)with h|h
  ·exact hr q h
  ·rw[List.mem_singleton.1 h];exact right_nought
 have HEQ:Hid (roundV l=rdV p q):=Lib.hid (by unfold roundV;rw[List.getD_eq_getElem?_getD,hp,List.getD_eq_getElem?_getD,hq];rfl)
 have hbg:=World.ownsRow.lt hd g rfl
 have hd1:=hd.below ((Below.refl _ w).alloc (Nat.le_refl _) (.cells vz 39))
 have HD1:=Lib.hid (show World.dcr ((w.alloc (.cells vz 39)).alloc (.cells #[.int .i64 0,.int .i64 0] 34)) base _ l from hd1.below ((Below.refl _ _).alloc (Nat.le_refl _) _))
 have hB1:=hB0.alloc (by simp;omega) (.cells #[.int .i64 0,.int .i64 0] 34)
 have hv1:=hv0.alloc (.cells #[.int .i64 0,.int .i64 0] 34)
 have HLL:Hid (l.length≤20000):=Lib.hid (by omega)
 have hN0:(0:Int)<(l.length:Int):=by have:=List.length_pos_iff.2 hl0;omega
 have HP:=Lib.hid hp
 have HWH:=Lib.hid (fun W=>wholeF_any (numV q) (-9) 9 (pcs (numV q)) W rfl rfl rfl (pcs_one _) (by have:=hrq.1;have:=hrq.2.1;show -9223372036854775808≤q.1∧q.1≤_;omega))
 have HRO:=Lib.hid (fun n W=>round_any p.1 p.2 n W (by have:=hrp.1;omega) (by have:=hrp.2.1;omega))
 have HTO:=Lib.hid told_any
 unfold WholePost at HWH
 unfold rdV at HEQ
 obtain⟨n,hn⟩:∃n,n=whN (numV q):=⟨_,rfl⟩
 obtain⟨l2,hl2⟩:∃l2,l2=l++ [((0:Int),(0:Int))]:=⟨_,rfl⟩
 rw[←hl2]at hN1 hq
 rw[←hn]at HWH HEQ
 have hN1I:(1:Int)<(l2.length:Int):=by omega
 have HQ:=Lib.hid hq
 have HL2:=Lib.hid hl2
 have hl2n:l2≠ []:=by intro e;rw[e]at hN1;simp at hN1
 obtain⟨⟨pm,pe⟩,hpe⟩:∃x,x=p:=⟨_,rfl⟩
 obtain⟨⟨qm,qe⟩,hqe⟩:∃x,x=q:=⟨_,rfl⟩
 subst hpe hqe
 clear hd hd1 hv0 hB0 hq hl2 hrp hrq hr hl hp hl0 hn hpp
 obtain⟨ok,hok⟩:∃b,b=whR (numV (qm,qe)) (-9) 9:=⟨_,rfl⟩
 rw[←hok]at HWH HEQ
 clear hok
 have HOB:Hid (Value.ownBlock (.slice (some ⟨g,0,none⟩) l.length cc)=some g):=Lib.hid rfl
 cases ok
 all_goals
  go_enter Tryz.func127,Tryz.ntmps127
  go_wp2_with (first|refine wpList_alloc34 rfl rfl ?_|refine wpList_bslD rfl rfl rfl ?_|(refine wpList_pushDk rfl rfl HD1.out HLL.out rfl rfl (World.dec_new _ 0 0 _ rfl) (by simp;omega) ?_;intro v8 w8 hr8 hg8 hk8;rw[HOB.out]at hg8;rw[←HL2.out]at hr8;obtain⟨p8,c8,rfl,hp8⟩:=dcr_slice hr8;obtain⟨g8,rfl⟩:=hp8 hl2n;have hB8:=hB1.grown hg8 (by simp;omega) (fun k hk=>by cases hk;exact hbg.1);have hvy:=hv1.grown hg8 (by intro e;injection e with e;omega);have hcq:=dcr_cells hr8 HQ.out)|refine wpList_loadDat rfl rfl rfl rfl hcq ?_|(go_at_call 119;refine(num_any qm qe _).mono ?_;rintro e w9 ⟨rfl,hB9⟩;clear hcq;have hvy:=hvy.below hB9 hvy.lt;have hB9a:=hB8.trans (hB9.mono (by have:=hB8.size;omega));have hk9:=hk8.below hB9)|(go_at_call 128;refine(HWH.out _).mono ?_;rintro e w10 ⟨rfl,hB10⟩;have hvy:=hvy.below hB10 hvy.lt;have hB10a:=hB9a.trans (hB10.mono (by have:=hB9a.size;omega));have hk10:=hk9.below hB10;have hcp:=dcr_cells hk10 HP.out)|refine wpList_loadDat rfl rfl rfl rfl hcp ?_|(go_at_call 33;refine(HRO.out n _).mono ?_;rintro e w11 ⟨rfl,hB11⟩;clear hcp;have hvy:=hvy.below hB11 hvy.lt;have hB11a:=hB10a.trans (hB11.mono (by have:=hB10a.size;omega)))|(go_at_call 129;refine(HTO.out _ _ _).mono ?_;rintro e w12 ⟨rfl,hB12⟩;have hvy:=hvy.below hB12 hvy.lt;have hB12a:=hB11a.trans (hB12.mono (by have:=hB11a.size;omega)))|(go_at_call 44;refine(fault_any 6 _).mono ?_;rintro e w12 ⟨rfl,hB12⟩;have hvy:=hvy.below hB12 hvy.lt;have hB12a:=hB10a.trans (hB12.mono (by have:=hB10a.size;omega)))|(refine wpList_store34 rfl rfl rfl rfl hvy (by rfl) (pcs_one _) ?_;intro w13 hn13 hg13 hz13))
  refine bodyPost_ret (results_cell_row rfl _ _ _ 39 _ (0,0) _ rfl hn13 Tryz.underlying39 rfl info34) rfl ?_
  exact⟨by rw[HEQ.out];rfl,hB12a.grown hg13 (by have:=hB12a.size;omega) (fun k9 hk9=>by cases hk9;omega)⟩
end Go.Proofs.YtmhfioimgllgeaaGreatDoor
