/- The law's Array. (By genLar.py.) -/
import Derived.Test.YtkhohjdakcchdaaGreatDoorBb
import Derived.Test.YtkhohjdakcchdaaGreatDoorBo
namespace Go.Proofs.YtkhohjdakcchdaaGreatDoor
open Go Go.RowKit Go.Shelf
/-- Raw numbers. -/
structure Rw where
 k:Int
 m:Int
 e:Int
 s:ByteArray
 b:Bool
structure RwOk (z:Rw):Prop where
 k:i64R z.k
 m:i64R z.m
 e:i64R z.e
 s:z.s.size≤9223372036854775807
abbrev Rw.c (z:Rw):Array Value:=rawC z.k z.m z.e z.s z.b
abbrev Rw.v (z:Rw):Vl:=valP z.k z.m z.e z.s z.b
/-- A slice of raw numbers below B. -/
def RawsAt (w:World) (B:Nat) (v:Value) (zs:List Rw):Prop:=
 ∃p c,v= .slice p zs.length c∧zs.length≤9223372036854775807∧∀i z,zs[i]? =some z→RwOk z∧∃g off,p=some ⟨g,off,none⟩∧g<B∧∀j u,z.c[j]? =some u→w.cell? ⟨g,off+i*5+j,none⟩=some u
theorem RawsAt.below {w w':World} {B:Nat} {v:Value} {zs:List Rw} (h:RawsAt w B v zs) (hb:Below B w w'):RawsAt w' B v zs:=by
 obtain⟨p,c,e,hl,h⟩:=h
 refine⟨p,c,e,hl,fun i z hi=> ?_⟩
 obtain⟨ho,g,off,e,hg,hc⟩:=h i z hi
 exact⟨ho,g,off,e,hg,fun j u hj=>(hb.cell (p:=⟨g,_,none⟩) hg).trans (hc j u hj)⟩
def elt (zs:List Rw) (i:Nat):Vl:=match zs[i%zs.length]? with
 |some z=>z.v
 |none=> {}
def eltL (zs:List Rw) (n:Nat):List Vl:=(List.range n).map (elt zs)
theorem eltL_succ (zs:List Rw) (n:Nat):eltL zs (n+1)=eltL zs n++ [elt zs n]:=by simp[eltL,List.range_succ]
theorem eltL_len (zs:List Rw) (n:Nat):(eltL zs n).length=n:=by simp[eltL]
theorem elt_plain (zs:List Rw) (i:Nat):plainV (elt zs i)=true:=by
 unfold elt
 split
 ·exact valP_plain _ _ _ _ _
 ·exact plain_zero
theorem eltL_plain (zs:List Rw) (n:Nat):∀x∈eltL zs n,plainV x=true:=fun x hx=>by
 obtain⟨i,_,rfl⟩:=List.mem_map.1 hx
 exact elt_plain zs i
def sideN (k:Int):Int:=1+pickI k 5
theorem sideN_bd (k:Int):1≤sideN k∧sideN k≤5:=by
 have:=pickI_bd k (n:=5) (by decide)
 unfold sideN
 omega
theorem side_mul (r c:Int):1≤sideN r*sideN c∧sideN r*sideN c≤25:=by
 have h1:=sideN_bd r
 have h2:=sideN_bd c
 have h3:=Int.mul_le_mul h1.2 h2.2 (by omega) (by omega)
 have h4:=Int.mul_le_mul h1.1 h2.1 (by omega) (by omega)
 omega
/-- The array of raw numbers. -/
def arrOf (r c:Int) (zs:List Rw):Vl:=arrV (sideN r) (sideN c) (eltL zs (sideN r*sideN c).toNat)
theorem arrOf_right (n:Nat) (r c:Int) (zs:List Rw):rightV (n+1) (arrOf r c zs)=true:=by
 have h1:=sideN_bd r
 have h2:=sideN_bd c
 have h3:=side_mul r c
 refine right_arr.2 ⟨⟨h1.1,h2.1,by omega,by omega,by omega,?_⟩,eltL_plain _ _⟩
 rw[eltL_len];omega
theorem info25 :(Tryz.prog.info? 25).map (·.size)=some 5:=by kernel_rfl
section
variable {ops : Array Oper} {rest : List Oper} {o : Oper} {a : Act} {w : World} {K : Act → World → Prop} {Q : Exit → Act → World → Prop}
theorem yields25 {x:Operand} {g off:Nat} {cs:Array Value} (ho:o.op= .load 25 x) (hx:a.eval x= .pointer (some ⟨g,off,none⟩)) (hs:cs.size=5) (hc:∀j u,cs[j]? =some u→w.cell? ⟨g,off+j,none⟩=some u):(execOp a.eval o).run Tryz.prog w= .ok (.value (.agg cs)) w:=by
 have:=run_load_at w g off 25 cs _ hc Tryz.underlying25 rfl (by rw[hs];exact info25)
 unfold execOp
 simp only[ho,hx,Instr.loadAt,Instr.sureAddr,Sem.run_bind,Sem.run_pure,Result.andThen_ok,this]
theorem wpList_bslice34 {x:Operand} {y:Vl} (hgd:o.guard=none) (ho:o.op= .buildSlice 28 1 #[(0,x)]) (hx:a.eval x= .agg (pcs y)) (h:wpList Tryz.prog ops Q rest (a.put o.dst (.slice (some ⟨w.heap.size,0,none⟩) 1 1)) (w.alloc (.cells (pcs y) 34))):wpList Tryz.prog ops Q (o :: rest) a w:=
 wpList_plain hgd fun _ hK=>op_bslice34 ho hx (hK _ _ h)
theorem wpList_pushv (hgd:o.guard=none) (s x:Operand) (ho:o.op= .call {callee:= .builtin .append,args:= #[s,x],argTypes:= #[28,28]})
 (base:Nat) (v:Value) (l:List Vl) (y:Vl) (g:Nat) (hown:World.vr w base v l) (hl:l.length≤2000) (hs:a.eval s=v) (hx:a.eval x= .slice (some ⟨g,0,none⟩) 1 1) (hc:World.vb w g (pcs y)) (hbase:base≤w.heap.size)
 (h:∀v' w',World.vr w' base v' (l++ [y])→w.grownBy w' v.ownBlock→wpList Tryz.prog ops Q rest (a.put o.dst v') w'):wpList Tryz.prog ops Q (o :: rest) a w:=
 wpList_plain hgd fun _ hK=>op_pushv s x ho base v l y g hown hl hs hx hc hbase fun v' w' h1 h2=>hK _ _ (h v' w' h1 h2)
end
set_option maxRecDepth 100000 in
set_option maxHeartbeats 8000000 in
theorem array_any (r c:Int) (zs:List Rw) (v:Value) (w:World) (hr:i64R r) (hc:i64R c) (hz:RawsAt w w.heap.size v zs):
 Calls Tryz.prog 13 #[.int .i64 r,.int .i64 c,v] w (HandsA (sideN r) (sideN c) (eltL zs (sideN r*sideN c).toNat) w):=by
 obtain⟨qr,hqr⟩:∃q,pickI r 5=q:=⟨_,rfl⟩
 obtain⟨qc,hqc⟩:∃q,pickI c 5=q:=⟨_,rfl⟩
 have PR:=Lib.hid (show ∀W,Calls Tryz.prog 24 #[.int .i64 r,.int .i64 5] W fun e w'=>e= .returned (.int .i64 qr)∧w'=W from fun W=>by rw[←hqr];exact pick_any r 5 W hr.1 hr.2 (by decide) (by decide))
 have PC:=Lib.hid (show ∀W,Calls Tryz.prog 24 #[.int .i64 c,.int .i64 5] W fun e w'=>e= .returned (.int .i64 qc)∧w'=W from fun W=>by rw[←hqc];exact pick_any c 5 W hc.1 hc.2 (by decide) (by decide))
 have h1:=sideN_bd r
 have h2:=sideN_bd c
 have h3:=side_mul r c
 obtain⟨R,hR⟩:∃R,sideN r=R:=⟨_,rfl⟩
 obtain⟨C,hC⟩:∃C,sideN c=C:=⟨_,rfl⟩
 have hRq:1+qr=R:=by rw[←hR,←hqr];rfl
 have hCq:1+qc=C:=by rw[←hC,←hqc];rfl
 rw[hR]at h1 h3⊢
 rw[hC]at h2 h3⊢
 obtain⟨M,hM⟩:∃M:Nat,(R*C).toNat=M:=⟨_,rfl⟩
 have hMI:R*C=(M:Int):=by omega
 have hM25:M≤25:=by omega
 rw[hM]
 have HZ:=Lib.hid hz
 obtain⟨p,cap,rfl,hlen,_⟩:=hz
 have hqr0:0≤qr∧qr≤4:=by omega
 have hqc0:0≤qc∧qc≤4:=by omega
 clear hqr hqc hR hC hM hr hc h3
 go_enter Tryz.func13,Tryz.ntmps13
 go_wp2_with (first|refine wpList_alloc34 rfl rfl ?_)
 refine(PR.out _).mono ?_
 rintro e2 w2 ⟨rfl,rfl⟩
 go_wp2_with fail
 refine(PC.out _).mono ?_
 rintro e2 w2 ⟨rfl,rfl⟩
 obtain⟨W0,hW0⟩:∃W0,W0=w.alloc (.cells vz 34):=⟨_,rfl⟩
 rw[←hW0]
 have hvr0:World.vb W0 w.heap.size vz:=by rw[hW0];exact World.vb_new _ _
 have hBW:Below w.heap.size w W0:=by rw[hW0];exact(Below.refl _ w).alloc (Nat.le_refl _) _
 have hz0:W0.heap.size=w.heap.size+1:=by rw[hW0];simp
 clear hW0
 obtain⟨bo,hbo⟩:∃bo,bo=W0.heap.size:=⟨_,rfl⟩
 have hbw:bo=w.heap.size+1:=by omega
 have HBw:=Lib.hid hbw
 clear hz0 hbw
 go_wp2_with (first|refine wpList_build_arr0 (r:=R) (c:=C) [] rfl rfl rfl rfl ?_|refine wpList_alloc34 rfl rfl ?_|(refine wpList_store34 rfl rfl rfl rfl (World.vb_new _ vz) (by rfl) (vcs_one _ none none none 0 0 0 0 0 0) ?_;intro w1 hn1 hg1 hz1;have hB1:Below bo W0 w1:=(by rw[hbo];exact((Below.refl _ W0).alloc (Nat.le_refl _) (.cells vz 34)).grown hg1 (by simp) (fun k9 hk9=>by cases hk9;exact Nat.le_refl _))))
 have hvo0:World.vb w1 bo (vcs (arrV R C []) nilS nilS nilS):=by rw[hbo];exact hn1
 have hbz:bo≤W0.heap.size:=by omega
 rw[←hbo]
 clear hbo hn1 hg1 hz1 PR PC
 have c6:=hvo0.cell (j:=6) (u:= .int .i64 R) rfl
 have c7:=hvo0.cell (j:=7) (u:= .int .i64 C) rfl
 go_loopw [8] (fun i wr=>∃(K:Nat) (sv:Value),K≤M∧i= .int .i64 (K:Int)∧Below bo W0 wr∧World.vb wr bo (vcs (arrV R C []) sv nilS nilS)∧World.vr wr (bo+1) sv (eltL zs K)) (fun i _=>M-(intOf i).toNat)
 case atStart=>exact⟨0,nilS,Nat.zero_le _,rfl,hB1,hvo0,World.vr_nil⟩
 case round=>
  clear c6 c7 hvo0
  obtain⟨K,sv,hK,rfl,hB,hvo,hown⟩:=hrel
  have c6:=hvo.cell (j:=6) (u:= .int .i64 R) rfl
  have c7:=hvo.cell (j:=7) (u:= .int .i64 C) rfl
  by_cases hlt:K<M
  ·have hKI:(K:Int)<(M:Int):=by omega
   have HT:Hid (eltL zs (K+1)=eltL zs K++ [elt zs K]):=Lib.hid (eltL_succ zs K)
   have HLen:Hid ((eltL zs K).length≤2000):=Lib.hid (by rw[eltL_len];omega)
   have HS:Hid (∀k,sv.ownBlock=some k→bo+1≤k∧k<wr.heap.size):=Lib.hid fun k hk=>World.ownsRow.lt hown k hk
   obtain⟨Co,hCo⟩:∃Co,vcs (arrV R C []) sv nilS nilS=Co:=⟨_,rfl⟩
   have xo8:Co[8]? =some sv:=by rw[←hCo];rfl
   rw[hCo]at hvo
   have HCo:=Lib.hid hCo
   have XO8:=Lib.hid xo8
   clear hCo xo8
   by_cases hz:zs.length=0
   ·have hE:elt zs K= {}:=by
     have:=List.eq_nil_of_length_eq_zero hz
     subst this;rfl
    rw[hE]at HT
    have hzb:((zs.length:Int)==0)=true:=by rw[hz];rfl
    have c8:=hvo.cell XO8.out
    clear hz hE
    go_wp2_with (first|refine wpList_build_zero rfl rfl ?_|(refine wpList_bslice34 (y:= {}) rfl rfl rfl ?_;obtain⟨gn,hgn⟩:∃gn,gn=wr.heap.size:=⟨_,rfl⟩;obtain⟨w3,hw3⟩:∃w3,w3=wr.alloc (.cells (pcs {}) 34):=⟨_,rfl⟩;rw[←hw3,←hgn];have hvn:World.vb w3 gn (pcs {}):=(by rw[hw3,hgn];exact World.vb_new _ _);have hvo:World.vb w3 bo Co:=(by rw[hw3];exact hvo.alloc _);have hown:World.vr w3 (bo+1) sv (eltL zs K):=(by rw[hw3];exact hown.alloc _);have hB:Below bo W0 w3:=(by rw[hw3];exact hB.alloc (Nat.le_trans hbz hB.size) _);have hgb:bo+1≤w3.heap.size:=hvo.lt;clear hw3 hgn)|(at_builtin;refine wpList_pushv rfl _ _ rfl (bo+1) sv (eltL zs K) {} gn hown HLen.out rfl rfl hvn hgb ?_;intro v4 w4 hown4 hg4;obtain⟨pv,nv,cv,rfl⟩:=hown4.shape2;have hvo:=hvo.grown hg4 (fun e=>by have:=HS.out _ e.symm;omega);have hB:=hB.grown hg4 (Nat.le_trans hbz hB.size) (fun k9 hk9=>by have:=HS.out _ hk9;omega);have e8:=hvo.cell XO8.out;have f8:=hvo.frozen 8))
    obtain⟨w5,hw5⟩:∃w5,w5=w4.setCell ⟨bo,8,none⟩ (.slice pv nv cv):=⟨_,rfl⟩
    rw[←hw5]
    have hvo5:World.vb w5 bo (vcs (arrV R C []) (.slice pv nv cv) nilS nilS):=by
     rw[hw5]
     have:=hvo.set 8 (.slice pv nv cv)
     rw[←HCo.out]at this
     exact this
    have hown5:World.vr w5 (bo+1) (.slice pv nv cv) (eltL zs (K+1)):=by
     rw[HT.out,hw5]
     exact hown4.grown (g:=bo) (grownBy_setCell _ _ _) (Nat.lt_succ_self _)
    have hB5:Below bo W0 w5:=by rw[hw5];exact hB.setCell (Nat.le_refl _) _
    have d6:=hvo5.cell (j:=6) (u:= .int .i64 R) rfl
    have d7:=hvo5.cell (j:=7) (u:= .int .i64 C) rfl
    clear hw5 hvo hown4 hB
    go_roundw
    case rel=>exact⟨K+1,_,by omega,by go_num,hB5,hvo5,hown5⟩
    case measure=>simp[intOf];omega
   ·have hzb:((zs.length:Int)==0)=false:=by rw[beq_eq_false_iff_ne];omega
    obtain⟨q,hq⟩:∃q,K%zs.length=q:=⟨_,rfl⟩
    have hql:q<zs.length:=by rw[←hq];exact Nat.mod_lt _ (by omega)
    obtain⟨z,hzq⟩:∃z,zs[q]? =some z:=⟨_,List.getElem?_eq_getElem hql⟩
    obtain⟨_,_,e0,_,HZ2⟩:=HZ.out
    injection e0 with e1 _ e2
    obtain⟨hzok,g0,off,e3,hg0,hzc⟩:=HZ2 q z hzq
    rw[←e1]at e3
    subst e3
    have hE:elt zs K=z.v:=by
     unfold elt
     rw[hq,hzq]
    have hqI:(q:Int)<(zs.length:Int):=by omega
    have hqI0:¬(q:Int)<0:=by omega
    have htm:(K:Int).tmod (zs.length:Int)=(q:Int):=by
     rw[Int.tmod_eq_emod_of_nonneg (by omega),←hq];rfl
    have hl63:(zs.length:Int)≤9223372036854775807:=by omega
    have hl0:¬(zs.length:Int)=0:=by omega
    have hl1:¬zs= []:=by intro e;rw[e]at hz;exact hz rfl
    obtain⟨y,hy⟩:∃y,elt zs K=y:=⟨_,rfl⟩
    have HX:=Lib.hid (show ∀W,Below bo W0 W→Calls Tryz.prog 12 #[.agg z.c] W (Gives (.agg (pcs y)) W)from fun W _=>by
     rw[←hy,hE]
     exact val_any z.k z.m z.e z.s z.b W hzok.k hzok.m hzok.e hzok.s)
    have HSRC:=Lib.hid (show ∀W,Below bo W0 W→∀j u,z.c[j]? =some u→W.cell? ⟨g0,off+q*5+j,none⟩=some u from fun W hW j u hj=>((hBW.trans (hW.mono (by have:=HBw.out;omega))).cell (p:=⟨g0,_,none⟩) hg0).trans (hzc j u hj))
    have hRC:(z.c).size=5:=rfl
    obtain⟨RC,hRCe⟩:∃RC,z.c=RC:=⟨_,rfl⟩
    rw[hRCe]at HX HSRC hRC
    have HRC:=Lib.hid hRC
    rw[hy]at HT
    clear hz hq hzq hzok hzc hE hRCe hRC hy HZ2 e1 e2 hql
    go_wp2_with fail
    refine wp_region_held_drew (S:=fun w9=>∀j u,RC[j]? =some u→w9.cell? ⟨g0,off+q*5+j,none⟩=some u) (by kernel_rfl) (HSRC.out _ hB.drew) (fun hHeld=> ?_)
    refine wpAnyH_take (i:=0) (v:= ?_) rfl (by kernel_rfl) (by kernel_rfl) (by kernel_rfl) (fun _ _ _ h=>h) (Or.inl ⟨by rfl,?_⟩) hHeld ?_
    rotate_left
    ·(intro w9 hSw;(try dsimp only at hSw);go_simp)
     all_goals with_reducible rfl
    try simp only[Act.put,List.setIfInBounds_toArray]
    refine wpAnyH_take (i:=2) (v:= ?_) rfl (by kernel_rfl) (by kernel_rfl) (by kernel_rfl) (fun _ _ _ h=>h) (Or.inl ⟨by rfl,?_⟩) hHeld ?_
    rotate_left
    ·(intro w9 hSw;(try dsimp only at hSw);go_simp)
     all_goals with_reducible rfl
    try simp only[Act.put]
    refine wpAnyH_take (i:=3) (v:= ?_) rfl (by kernel_rfl) (by kernel_rfl) (by kernel_rfl) (fun _ _ _ h=>h) (Or.inl ⟨by rfl,?_⟩) hHeld ?_
    rotate_left
    ·(intro w9 hSw;(try dsimp only at hSw);go_simp)
     all_goals with_reducible rfl
    try simp only[Act.put]
    refine wpAnyH_take (i:=4) (v:= ?_) rfl (by kernel_rfl) (by kernel_rfl) (by kernel_rfl) (fun _ _ _ h=>h) (Or.inl ⟨by rfl,?_⟩) hHeld ?_
    rotate_left
    ·(intro w9 hSw;(try dsimp only at hSw);go_simp)
     all_goals with_reducible rfl
    try simp only[Act.put]
    refine wpAnyH_take (i:=5) (v:= ?_) rfl (by kernel_rfl) (by kernel_rfl) (by kernel_rfl) (fun _ _ _ h=>h) (Or.inl ⟨by rfl,?_⟩) hHeld ?_
    rotate_left
    ·(intro w9 hSw;(try dsimp only at hSw);go_simp)
     all_goals with_reducible rfl
    try simp only[Act.put]
    refine wpAnyH_take (i:=6) (v:= ?_) rfl (by kernel_rfl) (by kernel_rfl) (by kernel_rfl) (fun _ _ _ h=>h) (Or.inl ⟨by rfl,?_⟩) hHeld ?_
    rotate_left
    ·(intro w9 hSw;(try dsimp only at hSw);go_simp)
     all_goals with_reducible rfl
    try simp only[Act.put]
    refine wpAnyH_take (i:=7) (v:= ?_) rfl (by kernel_rfl) (by kernel_rfl) (by kernel_rfl) (fun _ _ _ h=>h) (Or.inl ⟨by rfl,?_⟩) hHeld ?_
    rotate_left
    ·(intro w9 hSw;(try dsimp only at hSw);go_simp)
     all_goals with_reducible rfl
    try simp only[Act.put]
    refine wpAnyH_take (i:=8) (v:= ?_) rfl (by kernel_rfl) (by kernel_rfl) (by kernel_rfl) (fun _ _ _ h=>h) (Or.inl ⟨by rfl,?_⟩) hHeld ?_
    rotate_left
    ·(intro w9 hSw;refine yields25 (x:= .tmp 41) (g:=g0) (off:=off+q*5) (cs:=RC) ?_ ?_ HRC.out hSw<;>rfl)
    try simp only[Act.put]
    have hvo:=hvo.drew
    have hown:=hown.drew
    have hB:=hB.drew
    clear hHeld
    refine wpAnyH_ready (rs:= [1,9]) (by kernel_rfl) (by simp) ?_
    refine(AllReadyH.cons (o:=⟨some 35,_,_,_,_,_⟩) rfl (fun KK hK=> ?_) (AllReadyH.cons (o:=⟨some 43,_,_,_,_,_⟩) rfl (fun KK hK=> ?_) AllReadyH.nil))
    ·have c8:=hvo.cell XO8.out
     rw[if_pos (by rfl)]
     go_simp
     clear c8
     refine hK.out _ _ (HSRC.out _ hB) (fun hHeld=> ?_)
     clear hK KK hHeld
     try simp only[Act.put,pk1,pk2,pk3]
     refine wpAnyH_ready (rs:= [9]) (by kernel_rfl) (by simp) ?_
     refine(AllReadyH.cons (o:=⟨some 43,_,_,_,_,_⟩) rfl (fun KK hK=> ?_) AllReadyH.nil)
     ·go_simp
      refine(HX.out _ hB).mono ?_
      rintro e2 w2 ⟨rfl,hB2⟩
      have hvo:=hvo.below hB2 hvo.lt
      have hown:=hown.below hB2
      have hB:=hB.trans (hB2.mono (Nat.le_trans hbz hB.size))
      have hq2:=hB2.size
      clear hB2
      refine hK.out _ _ (HSRC.out _ hB) (fun hHeld=> ?_)
      clear hK KK hHeld
      try simp only[Act.put,pk1,pk2,pk3]
      refine wpAnyH_ready (rs:= [10]) (by kernel_rfl) (by simp) ?_
      refine(AllReadyH.cons (o:=⟨some 44,_,_,_,_,_⟩) rfl (fun KK hK=> ?_) AllReadyH.nil)
      ·rw[if_pos (by rfl)]
       refine op_bslice34 rfl rfl ?_
       obtain⟨gn,hgn⟩:∃gn,gn=w2.heap.size:=⟨_,rfl⟩
       obtain⟨w3,hw3⟩:∃w3,w3=w2.alloc (.cells (pcs y) 34):=⟨_,rfl⟩
       rw[←hw3,←hgn]
       have hvn:World.vb w3 gn (pcs y):=by rw[hw3,hgn];exact World.vb_new _ _
       have hvo:World.vb w3 bo Co:=by rw[hw3];exact hvo.alloc _
       have hown:World.vr w3 (bo+1) sv (eltL zs K):=by rw[hw3];exact hown.alloc _
       have hB:Below bo W0 w3:=by rw[hw3];exact hB.alloc (Nat.le_trans hbz hB.size) _
       have hgb:bo+1≤w3.heap.size:=hvo.lt
       clear hw3 hgn
       refine hK.out _ _ (HSRC.out _ hB) (fun hHeld=> ?_)
       clear hK KK hHeld
       try simp only[Act.put,pk1,pk2,pk3]
       refine wpAnyH_ready (rs:= [11]) (by kernel_rfl) (by simp) ?_
       refine(AllReadyH.cons (o:=⟨some 45,_,_,_,_,_⟩) rfl (fun KK hK=> ?_) AllReadyH.nil)
       ·rw[if_pos (by rfl)]
        refine op_pushv _ _ rfl (bo+1) sv (eltL zs K) y gn hown HLen.out rfl rfl hvn hgb ?_
        intro v4 w4 hown4 hg4
        obtain⟨pv,nv,cv,rfl⟩:=hown4.shape2
        have hvo:=hvo.grown hg4 (fun e=>by have:=HS.out _ e.symm;omega)
        have hB:=hB.grown hg4 (Nat.le_trans hbz hB.size) (fun k9 hk9=>by have:=HS.out _ hk9;omega)
        clear hown hvn hg4
        refine hK.out _ _ (HSRC.out _ hB) (fun hHeld=> ?_)
        clear hK KK hHeld
        try simp only[Act.put,pk1,pk2,pk3]
        refine wpAnyH_ready (rs:= [12]) (by kernel_rfl) (by simp) ?_
        refine(AllReadyH.cons (o:=⟨some 46,_,_,_,_,_⟩) rfl (fun KK hK=> ?_) AllReadyH.nil)
        ·rw[if_pos (by rfl)]
         go_simp
         refine hK.out _ _ (HSRC.out _ hB) (fun hHeld=> ?_)
         clear hK KK hHeld
         try simp only[Act.put,pk1,pk2,pk3]
         refine wpAnyH_ready (rs:= [13]) (by kernel_rfl) (by simp) ?_
         refine(AllReadyH.cons (o:=⟨none,_,_,_,_,_⟩) rfl (fun KK hK=> ?_) AllReadyH.nil)
         ·have c8:=hvo.cell XO8.out
          have f8:=hvo.frozen 8
          rw[if_pos (by rfl)]
          go_simp
          clear c8 f8
          refine hK.out _ _ (HSRC.out (w4.setCell ⟨bo,8,none⟩ (.slice pv nv cv)) (hB.setCell (Nat.le_refl _) _)) (fun hHeld=> ?_)
          clear hK KK hHeld
          try simp only[Act.put,pk1,pk2,pk3]
          refine wpAnyH_done (by kernel_rfl) ?_ _
          try simp only[Act.put,pk1,pk2,pk3]
          obtain⟨w5,hw5⟩:∃w5,w5=w4.setCell ⟨bo,8,none⟩ (.slice pv nv cv):=⟨_,rfl⟩
          rw[←hw5]
          have hvo5:World.vb w5 bo (vcs (arrV R C []) (.slice pv nv cv) nilS nilS):=by
           rw[hw5]
           have:=hvo.set 8 (.slice pv nv cv)
           rw[←HCo.out]at this
           exact this
          have hown5:World.vr w5 (bo+1) (.slice pv nv cv) (eltL zs (K+1)):=by
           rw[HT.out,hw5]
           exact hown4.grown (g:=bo) (grownBy_setCell _ _ _) (Nat.lt_succ_self _)
          have hB5:Below bo W0 w5:=by rw[hw5];exact hB.setCell (Nat.le_refl _) _
          have d6:=hvo5.cell (j:=6) (u:= .int .i64 R) rfl
          have d7:=hvo5.cell (j:=7) (u:= .int .i64 C) rfl
          clear hw5 hvo hown4 hB
          go_wp2_with fail
          go_roundw
          case rel=>exact⟨K+1,_,by omega,by go_num,hB5,hvo5,hown5⟩
          case measure=>simp[intOf];omega
    ·go_simp
     refine(HX.out _ hB).mono ?_
     rintro e2 w2 ⟨rfl,hB2⟩
     have hvo:=hvo.below hB2 hvo.lt
     have hown:=hown.below hB2
     have hB:=hB.trans (hB2.mono (Nat.le_trans hbz hB.size))
     have hq2:=hB2.size
     clear hB2
     refine hK.out _ _ (HSRC.out _ hB) (fun hHeld=> ?_)
     clear hK KK hHeld
     try simp only[Act.put,pk1,pk2,pk3]
     refine wpAnyH_ready (rs:= [1,10]) (by kernel_rfl) (by simp) ?_
     refine(AllReadyH.cons (o:=⟨some 35,_,_,_,_,_⟩) rfl (fun KK hK=> ?_) (AllReadyH.cons (o:=⟨some 44,_,_,_,_,_⟩) rfl (fun KK hK=> ?_) AllReadyH.nil))
     ·have c8:=hvo.cell XO8.out
      rw[if_pos (by rfl)]
      go_simp
      clear c8
      refine hK.out _ _ (HSRC.out _ hB) (fun hHeld=> ?_)
      clear hK KK hHeld
      try simp only[Act.put,pk1,pk2,pk3]
      refine wpAnyH_ready (rs:= [10]) (by kernel_rfl) (by simp) ?_
      refine(AllReadyH.cons (o:=⟨some 44,_,_,_,_,_⟩) rfl (fun KK hK=> ?_) AllReadyH.nil)
      ·rw[if_pos (by rfl)]
       refine op_bslice34 rfl rfl ?_
       obtain⟨gn,hgn⟩:∃gn,gn=w2.heap.size:=⟨_,rfl⟩
       obtain⟨w3,hw3⟩:∃w3,w3=w2.alloc (.cells (pcs y) 34):=⟨_,rfl⟩
       rw[←hw3,←hgn]
       have hvn:World.vb w3 gn (pcs y):=by rw[hw3,hgn];exact World.vb_new _ _
       have hvo:World.vb w3 bo Co:=by rw[hw3];exact hvo.alloc _
       have hown:World.vr w3 (bo+1) sv (eltL zs K):=by rw[hw3];exact hown.alloc _
       have hB:Below bo W0 w3:=by rw[hw3];exact hB.alloc (Nat.le_trans hbz hB.size) _
       have hgb:bo+1≤w3.heap.size:=hvo.lt
       clear hw3 hgn
       refine hK.out _ _ (HSRC.out _ hB) (fun hHeld=> ?_)
       clear hK KK hHeld
       try simp only[Act.put,pk1,pk2,pk3]
       refine wpAnyH_ready (rs:= [11]) (by kernel_rfl) (by simp) ?_
       refine(AllReadyH.cons (o:=⟨some 45,_,_,_,_,_⟩) rfl (fun KK hK=> ?_) AllReadyH.nil)
       ·rw[if_pos (by rfl)]
        refine op_pushv _ _ rfl (bo+1) sv (eltL zs K) y gn hown HLen.out rfl rfl hvn hgb ?_
        intro v4 w4 hown4 hg4
        obtain⟨pv,nv,cv,rfl⟩:=hown4.shape2
        have hvo:=hvo.grown hg4 (fun e=>by have:=HS.out _ e.symm;omega)
        have hB:=hB.grown hg4 (Nat.le_trans hbz hB.size) (fun k9 hk9=>by have:=HS.out _ hk9;omega)
        clear hown hvn hg4
        refine hK.out _ _ (HSRC.out _ hB) (fun hHeld=> ?_)
        clear hK KK hHeld
        try simp only[Act.put,pk1,pk2,pk3]
        refine wpAnyH_ready (rs:= [12]) (by kernel_rfl) (by simp) ?_
        refine(AllReadyH.cons (o:=⟨some 46,_,_,_,_,_⟩) rfl (fun KK hK=> ?_) AllReadyH.nil)
        ·rw[if_pos (by rfl)]
         go_simp
         refine hK.out _ _ (HSRC.out _ hB) (fun hHeld=> ?_)
         clear hK KK hHeld
         try simp only[Act.put,pk1,pk2,pk3]
         refine wpAnyH_ready (rs:= [13]) (by kernel_rfl) (by simp) ?_
         refine(AllReadyH.cons (o:=⟨none,_,_,_,_,_⟩) rfl (fun KK hK=> ?_) AllReadyH.nil)
         ·have c8:=hvo.cell XO8.out
          have f8:=hvo.frozen 8
          rw[if_pos (by rfl)]
          go_simp
          clear c8 f8
          refine hK.out _ _ (HSRC.out (w4.setCell ⟨bo,8,none⟩ (.slice pv nv cv)) (hB.setCell (Nat.le_refl _) _)) (fun hHeld=> ?_)
          clear hK KK hHeld
          try simp only[Act.put,pk1,pk2,pk3]
          refine wpAnyH_done (by kernel_rfl) ?_ _
          try simp only[Act.put,pk1,pk2,pk3]
          obtain⟨w5,hw5⟩:∃w5,w5=w4.setCell ⟨bo,8,none⟩ (.slice pv nv cv):=⟨_,rfl⟩
          rw[←hw5]
          have hvo5:World.vb w5 bo (vcs (arrV R C []) (.slice pv nv cv) nilS nilS):=by
           rw[hw5]
           have:=hvo.set 8 (.slice pv nv cv)
           rw[←HCo.out]at this
           exact this
          have hown5:World.vr w5 (bo+1) (.slice pv nv cv) (eltL zs (K+1)):=by
           rw[HT.out,hw5]
           exact hown4.grown (g:=bo) (grownBy_setCell _ _ _) (Nat.lt_succ_self _)
          have hB5:Below bo W0 w5:=by rw[hw5];exact hB.setCell (Nat.le_refl _) _
          have d6:=hvo5.cell (j:=6) (u:= .int .i64 R) rfl
          have d7:=hvo5.cell (j:=7) (u:= .int .i64 C) rfl
          clear hw5 hvo hown4 hB
          go_wp2_with fail
          go_roundw
          case rel=>exact⟨K+1,_,by omega,by go_num,hB5,hvo5,hown5⟩
          case measure=>simp[intOf];omega
     ·rw[if_pos (by rfl)]
      refine op_bslice34 rfl rfl ?_
      obtain⟨gn,hgn⟩:∃gn,gn=w2.heap.size:=⟨_,rfl⟩
      obtain⟨w3,hw3⟩:∃w3,w3=w2.alloc (.cells (pcs y) 34):=⟨_,rfl⟩
      rw[←hw3,←hgn]
      have hvn:World.vb w3 gn (pcs y):=by rw[hw3,hgn];exact World.vb_new _ _
      have hvo:World.vb w3 bo Co:=by rw[hw3];exact hvo.alloc _
      have hown:World.vr w3 (bo+1) sv (eltL zs K):=by rw[hw3];exact hown.alloc _
      have hB:Below bo W0 w3:=by rw[hw3];exact hB.alloc (Nat.le_trans hbz hB.size) _
      have hgb:bo+1≤w3.heap.size:=hvo.lt
      clear hw3 hgn
      refine hK.out _ _ (HSRC.out _ hB) (fun hHeld=> ?_)
      clear hK KK hHeld
      try simp only[Act.put,pk1,pk2,pk3]
      refine wpAnyH_ready (rs:= [1]) (by kernel_rfl) (by simp) ?_
      refine(AllReadyH.cons (o:=⟨some 35,_,_,_,_,_⟩) rfl (fun KK hK=> ?_) AllReadyH.nil)
      ·have c8:=hvo.cell XO8.out
       rw[if_pos (by rfl)]
       go_simp
       clear c8
       refine hK.out _ _ (HSRC.out _ hB) (fun hHeld=> ?_)
       clear hK KK hHeld
       try simp only[Act.put,pk1,pk2,pk3]
       refine wpAnyH_ready (rs:= [11]) (by kernel_rfl) (by simp) ?_
       refine(AllReadyH.cons (o:=⟨some 45,_,_,_,_,_⟩) rfl (fun KK hK=> ?_) AllReadyH.nil)
       ·rw[if_pos (by rfl)]
        refine op_pushv _ _ rfl (bo+1) sv (eltL zs K) y gn hown HLen.out rfl rfl hvn hgb ?_
        intro v4 w4 hown4 hg4
        obtain⟨pv,nv,cv,rfl⟩:=hown4.shape2
        have hvo:=hvo.grown hg4 (fun e=>by have:=HS.out _ e.symm;omega)
        have hB:=hB.grown hg4 (Nat.le_trans hbz hB.size) (fun k9 hk9=>by have:=HS.out _ hk9;omega)
        clear hown hvn hg4
        refine hK.out _ _ (HSRC.out _ hB) (fun hHeld=> ?_)
        clear hK KK hHeld
        try simp only[Act.put,pk1,pk2,pk3]
        refine wpAnyH_ready (rs:= [12]) (by kernel_rfl) (by simp) ?_
        refine(AllReadyH.cons (o:=⟨some 46,_,_,_,_,_⟩) rfl (fun KK hK=> ?_) AllReadyH.nil)
        ·rw[if_pos (by rfl)]
         go_simp
         refine hK.out _ _ (HSRC.out _ hB) (fun hHeld=> ?_)
         clear hK KK hHeld
         try simp only[Act.put,pk1,pk2,pk3]
         refine wpAnyH_ready (rs:= [13]) (by kernel_rfl) (by simp) ?_
         refine(AllReadyH.cons (o:=⟨none,_,_,_,_,_⟩) rfl (fun KK hK=> ?_) AllReadyH.nil)
         ·have c8:=hvo.cell XO8.out
          have f8:=hvo.frozen 8
          rw[if_pos (by rfl)]
          go_simp
          clear c8 f8
          refine hK.out _ _ (HSRC.out (w4.setCell ⟨bo,8,none⟩ (.slice pv nv cv)) (hB.setCell (Nat.le_refl _) _)) (fun hHeld=> ?_)
          clear hK KK hHeld
          try simp only[Act.put,pk1,pk2,pk3]
          refine wpAnyH_done (by kernel_rfl) ?_ _
          try simp only[Act.put,pk1,pk2,pk3]
          obtain⟨w5,hw5⟩:∃w5,w5=w4.setCell ⟨bo,8,none⟩ (.slice pv nv cv):=⟨_,rfl⟩
          rw[←hw5]
          have hvo5:World.vb w5 bo (vcs (arrV R C []) (.slice pv nv cv) nilS nilS):=by
           rw[hw5]
           have:=hvo.set 8 (.slice pv nv cv)
           rw[←HCo.out]at this
           exact this
          have hown5:World.vr w5 (bo+1) (.slice pv nv cv) (eltL zs (K+1)):=by
           rw[HT.out,hw5]
           exact hown4.grown (g:=bo) (grownBy_setCell _ _ _) (Nat.lt_succ_self _)
          have hB5:Below bo W0 w5:=by rw[hw5];exact hB.setCell (Nat.le_refl _) _
          have d6:=hvo5.cell (j:=6) (u:= .int .i64 R) rfl
          have d7:=hvo5.cell (j:=7) (u:= .int .i64 C) rfl
          clear hw5 hvo hown4 hB
          go_wp2_with fail
          go_roundw
          case rel=>exact⟨K+1,_,by omega,by go_num,hB5,hvo5,hown5⟩
          case measure=>simp[intOf];omega
  ·obtain rfl:K=M:=by omega
   have hKI:¬((K:Int)<(K:Int)):=by omega
   obtain⟨Co,hCo⟩:∃Co,vcs (arrV R C []) sv nilS nilS=Co:=⟨_,rfl⟩
   rw[hCo]at hvo
   have hoC:OneC Co:=by
    obtain⟨p',c',e⟩:=hown.shape
    rw[←hCo,e];exact vcs_one _ _ _ _ _ _ _ _ _ _
   have HCo:=Lib.hid hCo
   have HOC:=Lib.hid hoC
   clear hCo hoC
   have hvr:=hvr0.below hB (by have:=HBw.out;omega)
   go_wp2_with (first|refine wpList_load34 rfl rfl rfl hvo HOC.out.1 ?_|(refine wpList_store34 rfl rfl rfl rfl hvr (by rfl) HOC.out ?_;intro w9 hn9 hg9 hz9))
   refine bodyPost_ret (results_cell_row rfl _ _ _ 34 _ (0,0) _ rfl hn9 Tryz.underlying34 rfl (by rw[HOC.out.1];exact info34)) rfl ?_
   have hown9:World.vr w9 (bo+1) sv (eltL zs K):=hown.grown hg9 (by have:=HBw.out;omega)
   have hB9:=(hBW.trans (hB.mono (by have:=HBw.out;omega))).grown hg9 (by have:=hB.size;have:=hBW.size;omega) (fun k9 hk9=>by cases hk9;omega)
   exact⟨sv,by rw[←HCo.out];rfl,hown9.mono (by have:=HBw.out;omega),hB9⟩
end Go.Proofs.YtkhohjdakcchdaaGreatDoor
