/- Merged: Cont, Rgt. -/
import Derived.Test.YtkhohjdakcchdaaGreatDoorBj
import Derived.Test.YtkhohjdakcchdaaGreatDoorBk
namespace Go.Proofs.YtkhohjdakcchdaaGreatDoor
open Go Go.RowKit Go.Shelf
/-- A plain value's cells are known. -/
theorem plain_cells {w:World} {B n:Nat} {x:Vl} {v:Value} (hx:Rp w B (n+1) x v) (hp:plainV x=true):v= .agg (pcs x):=by
 obtain⟨L,Bs,Ps,rfl,_,hl,_,_,h6⟩:=hx
 have hk:=(plain_kind hp).2
 have hb:x.l= []∧x.bl= []∧x.ps= []:=by
  rcases plain_cases hp with e|⟨p,e,_⟩|⟨s,e,_⟩|⟨b,e⟩|⟨m,e,_⟩<;>subst e<;>exact⟨rfl,rfl,rfl⟩
 obtain⟨_,_,_,_,_,_,hL,_⟩:=hl
 rw[hL hb.1,(h6 hk).1 hb.2.1,(h6 hk).2 hb.2.2]
theorem enters67 :∀args w,(callFunc 67 args).run Tryz.prog w= .ok (.enter 67 args) w:=enters_of Tryz.func67 (by kernel_rfl) rfl
set_option maxRecDepth 100000 in
set_option maxHeartbeats 4000000 in
theorem odd_any (n:Nat) (x:Vl) (v:Value) (w:World) (hx:Rp w w.heap.size (n+1) x v) (hp:plainV x=true) (hT:Lib.Utf8Tabs 0 1 w):
 Calls Tryz.prog 67 #[v] w (Gives (.bool false) w):=by
 have hv:=plain_cells hx hp
 subst hv
 have HV:=Lib.hid (show ∀W,Below w.heap.size w W→w.heap.size≤W.heap.size→Calls Tryz.prog 68 #[.agg (pcs x)] W (Gives (.bool true) W)from fun W hW hz=>vplain_any n x _ W (hx.below hW hz) hp (tabs_below hT hW))
 obtain⟨C,hC⟩:∃C,pcs x=C:=⟨_,rfl⟩
 have hO:=pcs_one x
 rw[hC]at HV hO⊢
 have HO:=Lib.hid hO
 clear hC hO hx hp hT
 go_enter Tryz.func67,Tryz.ntmps67
 go_wp2_with (refine wpList_load34 rfl rfl rfl (World.vb_new' _ _ _ rfl) HO.out.1 ?_)
 refine(HV.out _ ((Below.refl _ w).alloc (Nat.le_refl _) _) (by simp)).mono ?_
 rintro e3 w3 ⟨rfl,hB3⟩
 have hB:=((Below.refl _ w).alloc (Nat.le_refl _) (.cells C 34)).trans (hB3.mono (by simp))
 clear hB3
 go_wp2_with fail
 go_ret
 exact⟨rfl,hB⟩
/-- Among plain ones there is no odd one. -/
def IdxPost (b:Bool) (w:World) (e:Ending) (w':World):Prop:=∃i:Int,e= .returned (.int .i64 i)∧(0≤i↔b=true)∧Below w.heap.size w w'
set_option maxRecDepth 100000 in
set_option maxHeartbeats 4000000 in
theorem idx_any (n g:Nat) (eg:∀args w,(callFunc g args).run Tryz.prog w= .ok (.enter g args) w) (q:Vl→Bool) (l:List Vl) (L:Value) (w:World)
 (IH:∀(x:Vl) (v:Value) (W:World),x∈l→Below w.heap.size w W→Rp W W.heap.size n x v→Calls Tryz.prog g #[v] W (Gives (.bool (q x)) W))
 (hl:VsAt (Rp w w.heap.size n) w w.heap.size L l):
 Calls Tryz.prog 115 #[L,.func (.func g) #[] #[]] w (IdxPost (l.any q) w):=by
 obtain⟨b,hb⟩:∃b,l.any q=b:=⟨_,rfl⟩
 rw[hb]
 have HBq:=Lib.hid hb
 clear hb
 obtain⟨p,c,rfl,l1,l2,l3,_,HL⟩:=hl
 have HIH:=Lib.hid IH
 have HLL:=Lib.hid HL
 clear IH HL
 unfold maxLen at l2
 go_enter Tryz.func115,Tryz.ntmps115
 go_wp2_with fail
 go_loopw [8] (fun i wr=>∃K:Nat,K≤l.length∧i= .int .i64 (K:Int)∧Below w.heap.size w wr∧Hid (∀i y,i<K→l[i]? =some y→q y=false)) (fun i _=>l.length-(intOf i).toNat)
 case atStart=>exact⟨0,Nat.zero_le _,rfl,Below.refl _ _,Lib.hid fun i y h=>by omega⟩
 case round=>
  obtain⟨K,hK,rfl,hB,HE⟩:=hrel
  by_cases hlt:K<l.length
  ·have hKI:(K:Int)<(l.length:Int):=by omega
   obtain⟨x,hx⟩:∃x,l[K]? =some x:=⟨_,List.getElem?_eq_getElem hlt⟩
   obtain⟨g0,off,cs,rfl,hg,hs,hx1,hx2⟩:=HLL.out K x hx
   have HC:=Lib.hid (show ∀W,Below w.heap.size w W→∀j u,cs[j]? =some u→W.cell? ⟨g0,off+K*12+j,none⟩=some u from fun W hW j u hj=>(hW.cell (p:=⟨g0,_,none⟩) hg).trans (hx2 j u hj))
   have HO:=Lib.hid hx1.one
   have HX:=Lib.hid (show Calls Tryz.prog g #[.agg cs] wr (Gives (.bool (q x)) wr)from HIH.out x _ wr (List.mem_of_getElem? hx) hB (hx1.below hB hB.size))
   have hBz:=hB.size
   have Hx:=Lib.hid hx
   clear hx hx1 hx2 hs
   cases hq:q x with
   |true=>
    rw[hq]at HX
    have HN:Hid (b=true):=Lib.hid (by rw[←HBq.out];exact List.any_eq_true.2 ⟨x,List.mem_of_getElem? Hx.out,hq⟩)
    clear hq
    go_wp2_with (first|refine wpList_load34at rfl rfl rfl HO.out.1 (HC.out _ hB) ?_|(go_at_fn g;refine HX.out.mono ?_;rintro e w' ⟨rfl,hb'⟩))
    have hB4:=hB.trans (hb'.mono hBz)
    go_ret
    exact⟨(K:Int),rfl,⟨fun _=>HN.out,fun _=>by omega⟩,hB4⟩
   |false=>
    rw[hq]at HX
    have HE':Hid (∀i y,i<K+1→l[i]? =some y→q y=false):=Lib.hid fun i y hi hy=>by
     by_cases e:i=K
     ·subst e
      rw[Hx.out]at hy
      injection hy with hy
      subst hy;exact hq
     ·exact HE.out i y (by omega) hy
    clear hq
    go_wp2_with (first|refine wpList_load34at rfl rfl rfl HO.out.1 (HC.out _ hB) ?_|(go_at_fn g;refine HX.out.mono ?_;rintro e w' ⟨rfl,hb'⟩))
    have hB4:=hB.trans (hb'.mono hBz)
    go_roundw
    case rel=>exact⟨K+1,by omega,by go_num,hB4,HE'⟩
    case measure=>simp[intOf];omega
  ·have hKI:¬(K:Int)<(l.length:Int):=by omega
   have HN:Hid (¬b=true):=Lib.hid fun h=>by
    rw[←HBq.out]at h
    obtain⟨y,hy,hq⟩:=List.any_eq_true.1 h
    obtain⟨i,hi,e⟩:=List.getElem_of_mem hy
    have:=HE.out i y (by omega) (by rw[List.getElem?_eq_getElem hi,e])
    rw[this]at hq;exact absurd hq (by decide)
   go_wp2_with fail
   go_ret
   exact⟨-1,rfl,⟨fun h=>absurd h (by decide),fun h=>absurd h HN.out⟩,hB⟩
set_option maxRecDepth 100000 in
set_option maxHeartbeats 4000000 in
theorem contains_any (n g:Nat) (eg:∀args w,(callFunc g args).run Tryz.prog w= .ok (.enter g args) w) (q:Vl→Bool) (l:List Vl) (L:Value) (w:World)
 (IH:∀(x:Vl) (v:Value) (W:World),x∈l→Below w.heap.size w W→Rp W W.heap.size n x v→Calls Tryz.prog g #[v] W (Gives (.bool (q x)) W))
 (hl:VsAt (Rp w w.heap.size n) w w.heap.size L l):
 Calls Tryz.prog 69 #[L,.func (.func g) #[] #[]] w (Gives (.bool (l.any q)) w):=by
 have HI:=Lib.hid (idx_any n g eg q l L w IH hl)
 obtain⟨p,c,rfl,_⟩:=hl
 clear IH
 cases hb:l.any q with
 |true=>
  rw[hb]at HI
  clear hb
  go_enter Tryz.func69,Tryz.ntmps69
  go_wp2_with fail
  refine HI.out.mono ?_
  rintro e w' ⟨i,rfl,hi,hB⟩
  have hi:=hi.2 rfl
  go_wp2_with fail
  go_ret
  exact⟨rfl,hB⟩
 |false=>
  rw[hb]at HI
  clear hb
  go_enter Tryz.func69,Tryz.ntmps69
  go_wp2_with fail
  refine HI.out.mono ?_
  rintro e w' ⟨i,rfl,hi,hB⟩
  have hi:i<0:=by
   have:¬0≤i:=fun h=>absurd (hi.1 h) (by decide)
   omega
  go_wp2_with fail
  go_ret
  exact⟨rfl,hB⟩
end Go.Proofs.YtkhohjdakcchdaaGreatDoor
namespace Go.Proofs.YtkhohjdakcchdaaGreatDoor
open Go Go.RowKit Go.Shelf
theorem build_arr (r c:Int) (l:List Vl) (p:Option Addr) (n k:Nat) (w:World):(Instr.build 34 #[(0,.int .i64 5),(5,.int .i64 r),(6,.int .i64 c),(7,.slice p n k)]).run Tryz.prog w= .ok (.agg (vcs (arrV r c l) (.slice p n k) nilS nilS)) w:=by kernel_rfl
section
variable {ops : Array Oper} {rest : List Oper} {o : Oper} {a : Act} {w : World} {Q : Exit → Act → World → Prop}
theorem wpList_build_arr {x y z:Operand} {r c:Int} (l:List Vl) {p:Option Addr} {n k:Nat} (hgd:o.guard=none) (ho:o.op= .build 34 #[(0,.const (.int .i64 5)),(5,x),(6,y),(7,z)]) (hx:a.eval x= .int .i64 r) (hy:a.eval y= .int .i64 c) (hz:a.eval z= .slice p n k)
 (h:wpList Tryz.prog ops Q rest (a.put o.dst (.agg (vcs (arrV r c l) (.slice p n k) nilS nilS))) w):wpList Tryz.prog ops Q (o :: rest) a w:=
 wpList_plain hgd fun K hK=>by
  have hb:=build_arr r c l p n k w
  have he:a.eval (.const (.int .i64 5))= .int .i64 5:=rfl
  unfold Oper.wp execOp
  simp[ho,hx,hy,hz,he,hb]
  exact hK _ _ h
end
/-- Plain, or an array of plain ones. -/
inductive NiceV :Vl→Prop
 |plain {x:Vl} (h:plainV x=true):NiceV x
 |arr {r c:Int} {l:List Vl} (h:∀x∈l,plainV x=true):NiceV (arrV r c l)
theorem right_dims {n:Nat} {r c:Int} {l:List Vl} (h:∀x∈l,plainV x=true):rightV (n+1) (arrV r c l)=dimsB (arrV r c l):=by
 rw[Bool.eq_iff_iff,right_arr]
 unfold dimsB
 rw[decide_eq_true_eq]
 exact⟨fun h=>h.1,fun h'=>⟨h',h⟩⟩
set_option maxRecDepth 100000 in
set_option maxHeartbeats 4000000 in
theorem right_plain_any (n:Nat) (x:Vl) (v:Value) (w:World) (hx:Rp w w.heap.size (n+1) x v) (hp:plainV x=true) (hT:Lib.Utf8Tabs 0 1 w):
 Calls Tryz.prog 27 #[v] w (Gives (.bool true) w):=by
 have hv:=plain_cells hx hp
 subst hv
 have HV:=Lib.hid (show ∀W,Below w.heap.size w W→w.heap.size≤W.heap.size→Calls Tryz.prog 68 #[.agg (pcs x)] W (Gives (.bool true) W)from fun W hW hz=>vplain_any n x _ W (hx.below hW hz) hp (tabs_below hT hW))
 have h5:=(plain_kind hp).1
 have h6:=(plain_kind hp).2
 obtain⟨C,hC⟩:∃C,pcs x=C:=⟨_,rfl⟩
 have hO:=pcs_one x
 have x0:C[0]? =some (.int .i64 x.k):=by rw[←hC];rfl
 rw[hC]at HV hO⊢
 have HO:=Lib.hid hO
 clear hC hO hx hp hT
 generalize x.k=k at x0 h5 h6
 have f5:(k==5)=false:=by simpa using h5
 have f6:(k==6)=false:=by simpa using h6
 clear h5 h6
 go_enter Tryz.func27,Tryz.ntmps27
 go_wp2_with (refine wpList_load34 rfl rfl rfl (World.vb_new' _ _ _ rfl) HO.out.1 ?_)
 refine(HV.out _ ((Below.refl _ w).alloc (Nat.le_refl _) _) (by simp)).mono ?_
 rintro e3 w3 ⟨rfl,hB3⟩
 have hB:=((Below.refl _ w).alloc (Nat.le_refl _) (.cells C 34)).trans (hB3.mono (by simp))
 clear hB3
 go_wp2_with fail
 go_ret
 exact⟨rfl,hB⟩
theorem arr_cells {w:World} {B n:Nat} {r c:Int} {l:List Vl} {v:Value} (hx:Rp w B (n+1) (arrV r c l) v):∃p k,v= .agg (vcs (arrV r c l) (.slice p l.length k) nilS nilS)∧VsAt (Rp w B n) w B (.slice p l.length k) l∧VOk (arrV r c l):=by
 obtain⟨L,Bs,Ps,rfl,ho,hl,_,_,h6⟩:=hx
 have h6:=h6 (by intro e;cases e)
 rw[h6.1 rfl,h6.2 rfl]
 obtain⟨p,k,e,_⟩:=id hl
 subst e
 exact⟨p,k,rfl,hl,ho⟩
theorem rp_arr {w:World} {B n:Nat} {r c:Int} {l:List Vl} {L:Value} (hl:VsAt (Rp w B n) w B L l) (ho:VOk (arrV r c l)):Rp w B (n+1) (arrV r c l) (.agg (vcs (arrV r c l) L nilS nilS)):=
 ⟨L,nilS,nilS,rfl,ho,hl,BsAt.nil,PsAt.nil,fun _=>⟨fun _=>rfl,fun _=>rfl⟩⟩
set_option maxRecDepth 100000 in
set_option maxHeartbeats 8000000 in
theorem right_arr_any (n:Nat) (r c:Int) (l:List Vl) (v:Value) (w:World) (hx:Rp w w.heap.size (n+2) (arrV r c l) v) (hp:∀x∈l,plainV x=true) (hT:Lib.Utf8Tabs 0 1 w):
 Calls Tryz.prog 27 #[v] w (Gives (.bool (dimsB (arrV r c l))) w):=by
 have HXX:=Lib.hid (show ∀W,Below w.heap.size w W→w.heap.size≤W.heap.size→Rp W W.heap.size (n+2) (arrV r c l) v from fun W hW hz=>hx.below hW hz)
 obtain⟨p,k,rfl,hl,hok⟩:=arr_cells hx
 have hll:=hl.shape
 obtain⟨_,_,e,hcap,hlen⟩:=hll
 injection e with e1 _ e2
 subst e1 e2
 have HCO:=Lib.hid (show ∀W,Below w.heap.size w W→w.heap.size≤W.heap.size→Calls Tryz.prog 69 #[.slice p l.length k,.func (.func 67) #[] #[]] W (Gives (.bool false) W)from fun W hW hz=>by
  have:=contains_any (n+1) 67 enters67 (fun _=>false) l (.slice p l.length k) W (fun x v W2 hm hb hr=>odd_any n x v W2 hr (hp x hm) (tabs_below (tabs_below hT hW) hb)) (hl.imp (fun p9 hp9=>hW.cell hp9) hz (fun y9 v9 h9=>h9.below hW hz))
  rw[show l.any (fun _=>false)=false from by simp]at this
  exact this)
 have HSA:=Lib.hid (show ∀W,Below w.heap.size w W→w.heap.size≤W.heap.size→Calls Tryz.prog 26 #[.agg (vcs (arrV r c l) (.slice p l.length k) nilS nilS),.agg (vcs (arrV r c l) (.slice p l.length k) nilS nilS)] W (Tells (arrV r c l=arrV r c l) W)from fun W hW hz=>same_any (n+2) _ _ _ _ W (HXX.out W hW hz) (HXX.out W hW hz))
 obtain⟨C,hC⟩:∃C,vcs (arrV r c l) (.slice p l.length k) nilS nilS=C:=⟨_,rfl⟩
 have hO:OneC C:=by rw[←hC];exact vcs_one _ _ _ _ _ _ _ _ _ _
 have x0:C[0]? =some (.int .i64 5):=by rw[←hC];rfl
 have x6:C[6]? =some (.int .i64 r):=by rw[←hC];rfl
 have x7:C[7]? =some (.int .i64 c):=by rw[←hC];rfl
 have x8:C[8]? =some (.slice p l.length k):=by rw[←hC];rfl
 have HC:=Lib.hid hC
 rw[hC]at HSA⊢
 have HO:=Lib.hid hO
 have hr:=hok.rows
 have hc:=hok.cols
 unfold i64R at hr hc
 change -9223372036854775808≤r∧r≤9223372036854775807 at hr
 change -9223372036854775808≤c∧c≤9223372036854775807 at hc
 clear hC hO hx hl hok hp HXX
 obtain⟨D,hD⟩:∃D,dimsB (arrV r c l)=D:=⟨_,rfl⟩
 rw[hD]
 have HD:Hid (D=true↔(1≤r∧1≤c∧r≤400∧c≤400∧r*c≤400∧(l.length:Int)=r*c)):=Lib.hid (by rw[←hD];unfold dimsB;exact decide_eq_true_iff)
 clear hD
 have HBB:=(Below.refl w.heap.size w).alloc (Nat.le_refl _) (.cells C 34)
 by_cases a1:r<1
 ·have HF:Hid (D=false):=Lib.hid (Bool.eq_false_iff.2 fun h=>by have:=HD.out.1 h;omega)
  go_enter Tryz.func27,Tryz.ntmps27
  go_wp2_with fail
  go_ret
  exact⟨by rw[HF.out];rfl,HBB⟩
 by_cases a2:c<1
 ·have HF:Hid (D=false):=Lib.hid (Bool.eq_false_iff.2 fun h=>by have:=HD.out.1 h;omega)
  go_enter Tryz.func27,Tryz.ntmps27
  go_wp2_with fail
  go_ret
  exact⟨by rw[HF.out];rfl,HBB⟩
 by_cases a3:400<r
 ·have HF:Hid (D=false):=Lib.hid (Bool.eq_false_iff.2 fun h=>by have:=HD.out.1 h;omega)
  go_enter Tryz.func27,Tryz.ntmps27
  go_wp2_with fail
  go_ret
  exact⟨by rw[HF.out];rfl,HBB⟩
 by_cases a4:400<c
 ·have HF:Hid (D=false):=Lib.hid (Bool.eq_false_iff.2 fun h=>by have:=HD.out.1 h;omega)
  go_enter Tryz.func27,Tryz.ntmps27
  go_wp2_with fail
  go_ret
  exact⟨by rw[HF.out];rfl,HBB⟩
 have hm0:0≤r*c:=Int.mul_nonneg (by omega) (by omega)
 have hm1:r*c≤400*400:=Int.mul_le_mul (by omega) (by omega) (by omega) (by omega)
 obtain⟨m,hm⟩:∃m,r*c=m:=⟨_,rfl⟩
 rw[hm]at hm0 hm1 HD
 by_cases a5:400<m
 ·have HF:Hid (D=false):=Lib.hid (Bool.eq_false_iff.2 fun h=>by have:=HD.out.1 h;omega)
  go_enter Tryz.func27,Tryz.ntmps27
  go_wp2_with fail
  go_ret
  exact⟨by rw[HF.out];rfl,HBB⟩
 by_cases a6:¬(l.length:Int)=m
 ·have HF:Hid (D=false):=Lib.hid (Bool.eq_false_iff.2 fun h=>by have:=HD.out.1 h;omega)
  have f6:((l.length:Int) != m)=true:=by simpa using a6
  clear a6
  go_enter Tryz.func27,Tryz.ntmps27
  go_wp2_with fail
  go_ret
  exact⟨by rw[HF.out];rfl,HBB⟩
 have a6:=Classical.not_not.1 a6
 have HF:Hid (D=true):=Lib.hid (HD.out.2 (by omega))
 have f6:((l.length:Int) != m)=false:=by simpa using a6
 clear a6
 have HM:=Lib.hid hm
 go_enter Tryz.func27,Tryz.ntmps27
 go_wp2_with (first|refine wpList_load34 rfl rfl rfl (World.vb_new' _ _ _ rfl) HO.out.1 ?_|refine wpList_build_arr l rfl rfl rfl rfl rfl ?_)
 rw[HC.out]
 refine(HSA.out _ HBB (by simp)).mono ?_
 rintro e3 w3 ⟨b1,rfl,hb1,hB3⟩
 have hb1:=hb1.2 (by first|rfl|trivial)
 subst hb1
 have hv1:World.vb w3 w.heap.size C:=(World.vb_new w C).below hB3 (by simp)
 have hB:=HBB.trans (hB3.mono (by simp))
 clear hB3
 have c8:=hv1.cell x8
 go_wp2_with fail
 refine(HCO.out _ hB hB.size).mono ?_
 rintro e4 w4 ⟨rfl,hB4⟩
 have hB:=hB.trans (hB4.mono hB.size)
 clear hB4 hv1 c8
 go_wp2_with fail
 go_ret
 exact⟨by rw[HF.out];rfl,hB⟩
/-- At any nice value. -/
theorem right27_any (n:Nat) (x:Vl) (v:Value) (w:World) (hx:Rp w w.heap.size (n+2) x v) (hp:NiceV x) (hT:Lib.Utf8Tabs 0 1 w):
 Calls Tryz.prog 27 #[v] w (Gives (.bool (rightV (n+2) x)) w):=by
 cases hp with
 |plain h=>rw[right_of_plain _ h];exact right_plain_any _ x v w hx h hT
 |arr h=>rw[right_dims h];exact right_arr_any n _ _ _ v w hx h hT
end Go.Proofs.YtkhohjdakcchdaaGreatDoor
