/- Merged: Cont, Rgt, Vsl. -/
import Derived.Test.YtmhfioimgllgeaaGreatDoorR23
import Derived.Test.YtmhfioimgllgeaaGreatDoorR24
import Derived.Maps.AppendAt
namespace Go.Proofs.YtmhfioimgllgeaaGreatDoor
open Go Go.RowKit Go.Shelf
/-- A plain value's cells are known. -/
theorem plain_cells {w:World} {B n:Nat} {x:Vl} {v:Value} (hx:Rp w B (n+1) x v) (hp:plainV x=true):v= .agg (pcs x):=by
 obtain⟨L,Bs,Ps,rfl,_,hl,_,_,h6⟩:=hx
 have hk:=(plain_kind hp).2
 have hb:x.l= []∧x.bl= []∧x.ps= []:=by
  rcases plain_cases hp with e|⟨p,e,_⟩|⟨s,e,_⟩|⟨b,e⟩|⟨m,e,_⟩<;>subst e<;>exact⟨rfl,rfl,rfl⟩
 obtain⟨_,_,_,_,_,_,hL,_⟩:=hl
 rw[hL hb.1,(h6 hk).1 hb.2.1,(h6 hk).2 hb.2.2]
theorem enters67 :∀args w,(callFunc 49 args).run Tryz.prog w= .ok (.enter 49 args) w:=enters_of Tryz.func49 (by kernel_rfl) rfl
set_option maxRecDepth 100000 in
set_option maxHeartbeats 4000000 in
theorem odd_any (n:Nat) (x:Vl) (v:Value) (w:World) (hx:Rp w w.heap.size (n+1) x v) (hp:plainV x=true) (hT:Lib.Utf8Tabs 2 3 w):
 Calls Tryz.prog 49 #[v] w (Gives (.bool false) w):=by
 have hv:=plain_cells hx hp
 subst hv
 have HV:=Lib.hid (show ∀W,Below w.heap.size w W→w.heap.size≤W.heap.size→Calls Tryz.prog 50 #[.agg (pcs x)] W (Gives (.bool true) W)from fun W hW hz=>vplain_any n x _ W (hx.below hW hz) hp (tabs_below hT hW))
 obtain⟨C,hC⟩:∃C,pcs x=C:=⟨_,rfl⟩
 have hO:=pcs_one x
 rw[hC]at HV hO⊢
 have HO:=Lib.hid hO
 clear hC hO hx hp hT
 go_enter Tryz.func49,Tryz.ntmps49
 go_wp2_with (refine wpList_load34 rfl rfl rfl (World.vb_new' _ _ _ rfl) HO.out.1 ?_)
 refine(HV.out _ ((Below.refl _ w).alloc (Nat.le_refl _) _) (by simp)).mono ?_
 rintro e3 w3 ⟨rfl,hB3⟩
 have hB:=((Below.refl _ w).alloc (Nat.le_refl _) (.cells C 39)).trans (hB3.mono (by simp))
 clear hB3
 go_wp2_with fail
 go_ret
 exact⟨rfl,hB⟩
/-- Among plain ones there is no odd one. -/
def IdxPost (b:Bool) (w:World) (e:Ending) (w':World):Prop:=∃i:Int,e= .returned (.int .i64 i)∧(0≤i↔b=true)∧Below w.heap.size w w'
set_option maxRecDepth 100000 in
set_option maxHeartbeats 4000000 in
theorem idx_any (n g:Nat) (eg:∀args w,(callFunc g args).run Tryz.prog w= .ok (.enter g args) w) (q:Vl→Bool) (l:List Vl) (L:Value) (w:World)
 (IH:∀(x:Vl) (v:Value) (W:World),x∈l→Below w.heap.size w W→Rp W W.heap.size n x v→Calls Tryz.prog g #[v] W (Gives (.bool (q x)) W))
 (hl:VsAt (Rp w w.heap.size n) w w.heap.size L l):
 Calls Tryz.prog 91 #[L,.func (.func g) #[] #[]] w (IdxPost (l.any q) w):=by
 obtain⟨b,hb⟩:∃b,l.any q=b:=⟨_,rfl⟩
 rw[hb]
 have HBq:=Lib.hid hb
 clear hb
 obtain⟨p,c,rfl,l1,l2,l3,_,HL⟩:=hl
 have HIH:=Lib.hid IH
 have HLL:=Lib.hid HL
 clear IH HL
 unfold maxLen at l2
 go_enter Tryz.func91,Tryz.ntmps91
 go_wp2_with fail
 go_loopw [8] (fun i wr=>∃K:Nat,K≤l.length∧i= .int .i64 (K:Int)∧Below w.heap.size w wr∧Hid (∀i y,i<K→l[i]? =some y→q y=false)) (fun i _=>l.length-(intOf i).toNat)
 case atStart=>exact⟨0,Nat.zero_le _,rfl,Below.refl _ _,Lib.hid fun i y h=>by omega⟩
 case round=>
  obtain⟨K,hK,rfl,hB,HE⟩:=hrel
  by_cases hlt:K<l.length
  ·have hKI:(K:Int)<(l.length:Int):=by omega
   obtain⟨x,hx⟩:∃x,l[K]? =some x:=⟨_,List.getElem?_eq_getElem hlt⟩
   obtain⟨g0,off,cs,rfl,hg,hs,hx1,hx2⟩:=HLL.out K x hx
   have HC:=Lib.hid (show ∀W,Below w.heap.size w W→∀j u,cs[j]? =some u→W.cell? ⟨g0,off+K*12+j,none⟩=some u from fun W hW j u hj=>(hW.cell (p:=⟨g0,_,none⟩) hg).trans (hx2 j u hj))
   have HO:=Lib.hid hx1.one
   have HX:=Lib.hid (show Calls Tryz.prog g #[.agg cs] wr (Gives (.bool (q x)) wr)from HIH.out x _ wr (List.mem_of_getElem? hx) hB (hx1.below hB hB.size))
   have hBz:=hB.size
   have Hx:=Lib.hid hx
   clear hx hx1 hx2 hs
   cases hq:q x with
   |true=>
    rw[hq]at HX
    have HN:Hid (b=true):=Lib.hid (by rw[←HBq.out];exact List.any_eq_true.2 ⟨x,List.mem_of_getElem? Hx.out,hq⟩)
    clear hq
    go_wp2_with (first|refine wpList_load34at rfl rfl rfl HO.out.1 (HC.out _ hB) ?_|(go_at_fn g;refine HX.out.mono ?_;rintro e w' ⟨rfl,hb'⟩))
    have hB4:=hB.trans (hb'.mono hBz)
    go_ret
    exact⟨(K:Int),rfl,⟨fun _=>HN.out,fun _=>by omega⟩,hB4⟩
   |false=>
    rw[hq]at HX
    have HE':Hid (∀i y,i<K+1→l[i]? =some y→q y=false):=Lib.hid fun i y hi hy=>by
     by_cases e:i=K
     ·subst e
      rw[Hx.out]at hy
      injection hy with hy
      subst hy;exact hq
     ·exact HE.out i y (by omega) hy
    clear hq
    go_wp2_with (first|refine wpList_load34at rfl rfl rfl HO.out.1 (HC.out _ hB) ?_|(go_at_fn g;refine HX.out.mono ?_;rintro e w' ⟨rfl,hb'⟩))
    have hB4:=hB.trans (hb'.mono hBz)
    go_roundw
    case rel=>exact⟨K+1,by omega,by go_num,hB4,HE'⟩
    case measure=>simp[intOf];omega
  ·have hKI:¬(K:Int)<(l.length:Int):=by omega
   have HN:Hid (¬b=true):=Lib.hid fun h=>by
    rw[←HBq.out]at h
    obtain⟨y,hy,hq⟩:=List.any_eq_true.1 h
    obtain⟨i,hi,e⟩:=List.getElem_of_mem hy
    have:=HE.out i y (by omega) (by rw[List.getElem?_eq_getElem hi,e])
    rw[this]at hq;exact absurd hq (by decide)
   go_wp2_with fail
   go_ret
   exact⟨-1,rfl,⟨fun h=>absurd h (by decide),fun h=>absurd h HN.out⟩,hB⟩
set_option maxRecDepth 100000 in
set_option maxHeartbeats 4000000 in
theorem contains_any (n g:Nat) (eg:∀args w,(callFunc g args).run Tryz.prog w= .ok (.enter g args) w) (q:Vl→Bool) (l:List Vl) (L:Value) (w:World)
 (IH:∀(x:Vl) (v:Value) (W:World),x∈l→Below w.heap.size w W→Rp W W.heap.size n x v→Calls Tryz.prog g #[v] W (Gives (.bool (q x)) W))
 (hl:VsAt (Rp w w.heap.size n) w w.heap.size L l):
 Calls Tryz.prog 45 #[L,.func (.func g) #[] #[]] w (Gives (.bool (l.any q)) w):=by
 have HI:=Lib.hid (idx_any n g eg q l L w IH hl)
 obtain⟨p,c,rfl,_⟩:=hl
 clear IH
 cases hb:l.any q with
 |true=>
  rw[hb]at HI
  clear hb
  go_enter Tryz.func45,Tryz.ntmps45
  go_wp2_with fail
  refine HI.out.mono ?_
  rintro e w' ⟨i,rfl,hi,hB⟩
  have hi:=hi.2 rfl
  go_wp2_with fail
  go_ret
  exact⟨rfl,hB⟩
 |false=>
  rw[hb]at HI
  clear hb
  go_enter Tryz.func45,Tryz.ntmps45
  go_wp2_with fail
  refine HI.out.mono ?_
  rintro e w' ⟨i,rfl,hi,hB⟩
  have hi:i<0:=by
   have:¬0≤i:=fun h=>absurd (hi.1 h) (by decide)
   omega
  go_wp2_with fail
  go_ret
  exact⟨rfl,hB⟩
end Go.Proofs.YtmhfioimgllgeaaGreatDoor
namespace Go.Proofs.YtmhfioimgllgeaaGreatDoor
open Go Go.RowKit Go.Shelf
theorem build_arr (r c:Int) (l:List Vl) (p:Option Addr) (n k:Nat) (w:World):(Instr.build 39 #[(0,.int .i64 5),(5,.int .i64 r),(6,.int .i64 c),(7,.slice p n k)]).run Tryz.prog w= .ok (.agg (vcs (arrV r c l) (.slice p n k) nilS nilS)) w:=by kernel_rfl
section
variable {ops : Array Oper} {rest : List Oper} {o : Oper} {a : Act} {w : World} {Q : Exit → Act → World → Prop}
theorem wpList_build_arr {x y z:Operand} {r c:Int} (l:List Vl) {p:Option Addr} {n k:Nat} (hgd:o.guard=none) (ho:o.op= .build 39 #[(0,.const (.int .i64 5)),(5,x),(6,y),(7,z)]) (hx:a.eval x= .int .i64 r) (hy:a.eval y= .int .i64 c) (hz:a.eval z= .slice p n k)
 (h:wpList Tryz.prog ops Q rest (a.put o.dst (.agg (vcs (arrV r c l) (.slice p n k) nilS nilS))) w):wpList Tryz.prog ops Q (o :: rest) a w:=
 wpList_plain hgd fun K hK=>by
  have hb:=build_arr r c l p n k w
  have he:a.eval (.const (.int .i64 5))= .int .i64 5:=rfl
  unfold Oper.wp execOp
  simp[ho,hx,hy,hz,he,hb]
  exact hK _ _ h
end
/-- Plain, or an array of plain ones. -/
inductive NiceV :Vl→Prop
 |plain {x:Vl} (h:plainV x=true):NiceV x
 |arr {r c:Int} {l:List Vl} (h:∀x∈l,plainV x=true):NiceV (arrV r c l)
theorem right_dims {n:Nat} {r c:Int} {l:List Vl} (h:∀x∈l,plainV x=true):rightV (n+1) (arrV r c l)=dimsB (arrV r c l):=by
 rw[Bool.eq_iff_iff,right_arr]
 unfold dimsB
 rw[decide_eq_true_eq]
 exact⟨fun h=>h.1,fun h'=>⟨h',h⟩⟩
set_option maxRecDepth 100000 in
set_option maxHeartbeats 4000000 in
theorem right_plain_any (n:Nat) (x:Vl) (v:Value) (w:World) (hx:Rp w w.heap.size (n+1) x v) (hp:plainV x=true) (hT:Lib.Utf8Tabs 2 3 w):
 Calls Tryz.prog 19 #[v] w (Gives (.bool true) w):=by
 have hv:=plain_cells hx hp
 subst hv
 have HV:=Lib.hid (show ∀W,Below w.heap.size w W→w.heap.size≤W.heap.size→Calls Tryz.prog 50 #[.agg (pcs x)] W (Gives (.bool true) W)from fun W hW hz=>vplain_any n x _ W (hx.below hW hz) hp (tabs_below hT hW))
 have h5:=(plain_kind hp).1
 have h6:=(plain_kind hp).2
 obtain⟨C,hC⟩:∃C,pcs x=C:=⟨_,rfl⟩
 have hO:=pcs_one x
 have x0:C[0]? =some (.int .i64 x.k):=by rw[←hC];rfl
 rw[hC]at HV hO⊢
 have HO:=Lib.hid hO
 clear hC hO hx hp hT
 generalize x.k=k at x0 h5 h6
 have f5:(k==5)=false:=by simpa using h5
 have f6:(k==6)=false:=by simpa using h6
 clear h5 h6
 go_enter Tryz.func19,Tryz.ntmps19
 go_wp2_with (refine wpList_load34 rfl rfl rfl (World.vb_new' _ _ _ rfl) HO.out.1 ?_)
 refine(HV.out _ ((Below.refl _ w).alloc (Nat.le_refl _) _) (by simp)).mono ?_
 rintro e3 w3 ⟨rfl,hB3⟩
 have hB:=((Below.refl _ w).alloc (Nat.le_refl _) (.cells C 39)).trans (hB3.mono (by simp))
 clear hB3
 go_wp2_with fail
 go_ret
 exact⟨rfl,hB⟩
theorem arr_cells {w:World} {B n:Nat} {r c:Int} {l:List Vl} {v:Value} (hx:Rp w B (n+1) (arrV r c l) v):∃p k,v= .agg (vcs (arrV r c l) (.slice p l.length k) nilS nilS)∧VsAt (Rp w B n) w B (.slice p l.length k) l∧VOk (arrV r c l):=by
 obtain⟨L,Bs,Ps,rfl,ho,hl,_,_,h6⟩:=hx
 have h6:=h6 (by intro e;cases e)
 rw[h6.1 rfl,h6.2 rfl]
 obtain⟨p,k,e,_⟩:=id hl
 subst e
 exact⟨p,k,rfl,hl,ho⟩
theorem rp_arr {w:World} {B n:Nat} {r c:Int} {l:List Vl} {L:Value} (hl:VsAt (Rp w B n) w B L l) (ho:VOk (arrV r c l)):Rp w B (n+1) (arrV r c l) (.agg (vcs (arrV r c l) L nilS nilS)):=
 ⟨L,nilS,nilS,rfl,ho,hl,BsAt.nil,PsAt.nil,fun _=>⟨fun _=>rfl,fun _=>rfl⟩⟩
set_option maxRecDepth 100000 in
set_option maxHeartbeats 8000000 in
theorem right_arr_any (n:Nat) (r c:Int) (l:List Vl) (v:Value) (w:World) (hx:Rp w w.heap.size (n+2) (arrV r c l) v) (hp:∀x∈l,plainV x=true) (hT:Lib.Utf8Tabs 2 3 w):
 Calls Tryz.prog 19 #[v] w (Gives (.bool (dimsB (arrV r c l))) w):=by
 have HXX:=Lib.hid (show ∀W,Below w.heap.size w W→w.heap.size≤W.heap.size→Rp W W.heap.size (n+2) (arrV r c l) v from fun W hW hz=>hx.below hW hz)
 obtain⟨p,k,rfl,hl,hok⟩:=arr_cells hx
 have hll:=hl.shape
 obtain⟨_,_,e,hcap,hlen⟩:=hll
 injection e with e1 _ e2
 subst e1 e2
 have HCO:=Lib.hid (show ∀W,Below w.heap.size w W→w.heap.size≤W.heap.size→Calls Tryz.prog 45 #[.slice p l.length k,.func (.func 49) #[] #[]] W (Gives (.bool false) W)from fun W hW hz=>by
  have:=contains_any (n+1) 49 enters67 (fun _=>false) l (.slice p l.length k) W (fun x v W2 hm hb hr=>odd_any n x v W2 hr (hp x hm) (tabs_below (tabs_below hT hW) hb)) (hl.imp (fun p9 hp9=>hW.cell hp9) hz (fun y9 v9 h9=>h9.below hW hz))
  rw[show l.any (fun _=>false)=false from by simp]at this
  exact this)
 have HSA:=Lib.hid (show ∀W,Below w.heap.size w W→w.heap.size≤W.heap.size→Calls Tryz.prog 21 #[.agg (vcs (arrV r c l) (.slice p l.length k) nilS nilS),.agg (vcs (arrV r c l) (.slice p l.length k) nilS nilS)] W (Tells (arrV r c l=arrV r c l) W)from fun W hW hz=>same_any (n+2) _ _ _ _ W (HXX.out W hW hz) (HXX.out W hW hz))
 obtain⟨C,hC⟩:∃C,vcs (arrV r c l) (.slice p l.length k) nilS nilS=C:=⟨_,rfl⟩
 have hO:OneC C:=by rw[←hC];exact vcs_one _ _ _ _ _ _ _ _ _ _
 have x0:C[0]? =some (.int .i64 5):=by rw[←hC];rfl
 have x6:C[6]? =some (.int .i64 r):=by rw[←hC];rfl
 have x7:C[7]? =some (.int .i64 c):=by rw[←hC];rfl
 have x8:C[8]? =some (.slice p l.length k):=by rw[←hC];rfl
 have HC:=Lib.hid hC
 rw[hC]at HSA⊢
 have HO:=Lib.hid hO
 have hr:=hok.rows
 have hc:=hok.cols
 unfold i64R at hr hc
 change -9223372036854775808≤r∧r≤9223372036854775807 at hr
 change -9223372036854775808≤c∧c≤9223372036854775807 at hc
 clear hC hO hx hl hok hp HXX
 obtain⟨D,hD⟩:∃D,dimsB (arrV r c l)=D:=⟨_,rfl⟩
 rw[hD]
 have HD:Hid (D=true↔(1≤r∧1≤c∧r≤400∧c≤400∧r*c≤400∧(l.length:Int)=r*c)):=Lib.hid (by rw[←hD];unfold dimsB;exact decide_eq_true_iff)
 clear hD
 have HBB:=(Below.refl w.heap.size w).alloc (Nat.le_refl _) (.cells C 39)
 by_cases a1:r<1
 ·have HF:Hid (D=false):=Lib.hid (Bool.eq_false_iff.2 fun h=>by have:=HD.out.1 h;omega)
  go_enter Tryz.func19,Tryz.ntmps19
  go_wp2_with fail
  go_ret
  exact⟨by rw[HF.out];rfl,HBB⟩
 by_cases a2:c<1
 ·have HF:Hid (D=false):=Lib.hid (Bool.eq_false_iff.2 fun h=>by have:=HD.out.1 h;omega)
  go_enter Tryz.func19,Tryz.ntmps19
  go_wp2_with fail
  go_ret
  exact⟨by rw[HF.out];rfl,HBB⟩
 by_cases a3:400<r
 ·have HF:Hid (D=false):=Lib.hid (Bool.eq_false_iff.2 fun h=>by have:=HD.out.1 h;omega)
  go_enter Tryz.func19,Tryz.ntmps19
  go_wp2_with fail
  go_ret
  exact⟨by rw[HF.out];rfl,HBB⟩
 by_cases a4:400<c
 ·have HF:Hid (D=false):=Lib.hid (Bool.eq_false_iff.2 fun h=>by have:=HD.out.1 h;omega)
  go_enter Tryz.func19,Tryz.ntmps19
  go_wp2_with fail
  go_ret
  exact⟨by rw[HF.out];rfl,HBB⟩
 have hm0:0≤r*c:=Int.mul_nonneg (by omega) (by omega)
 have hm1:r*c≤400*400:=Int.mul_le_mul (by omega) (by omega) (by omega) (by omega)
 obtain⟨m,hm⟩:∃m,r*c=m:=⟨_,rfl⟩
 rw[hm]at hm0 hm1 HD
 by_cases a5:400<m
 ·have HF:Hid (D=false):=Lib.hid (Bool.eq_false_iff.2 fun h=>by have:=HD.out.1 h;omega)
  go_enter Tryz.func19,Tryz.ntmps19
  go_wp2_with fail
  go_ret
  exact⟨by rw[HF.out];rfl,HBB⟩
 by_cases a6:¬(l.length:Int)=m
 ·have HF:Hid (D=false):=Lib.hid (Bool.eq_false_iff.2 fun h=>by have:=HD.out.1 h;omega)
  have f6:((l.length:Int) != m)=true:=by simpa using a6
  clear a6
  go_enter Tryz.func19,Tryz.ntmps19
  go_wp2_with fail
  go_ret
  exact⟨by rw[HF.out];rfl,HBB⟩
 have a6:=Classical.not_not.1 a6
 have HF:Hid (D=true):=Lib.hid (HD.out.2 (by omega))
 have f6:((l.length:Int) != m)=false:=by simpa using a6
 clear a6
 have HM:=Lib.hid hm
 go_enter Tryz.func19,Tryz.ntmps19
 go_wp2_with (first|refine wpList_load34 rfl rfl rfl (World.vb_new' _ _ _ rfl) HO.out.1 ?_|refine wpList_build_arr l rfl rfl rfl rfl rfl ?_)
 rw[HC.out]
 refine(HSA.out _ HBB (by simp)).mono ?_
 rintro e3 w3 ⟨b1,rfl,hb1,hB3⟩
 have hb1:=hb1.2 (by first|rfl|trivial)
 subst hb1
 have hv1:World.vb w3 w.heap.size C:=(World.vb_new w C).below hB3 (by simp)
 have hB:=HBB.trans (hB3.mono (by simp))
 clear hB3
 have c8:=hv1.cell x8
 go_wp2_with fail
 refine(HCO.out _ hB hB.size).mono ?_
 rintro e4 w4 ⟨rfl,hB4⟩
 have hB:=hB.trans (hB4.mono hB.size)
 clear hB4 hv1 c8
 go_wp2_with fail
 go_ret
 exact⟨by rw[HF.out];rfl,hB⟩
/-- At any nice value. -/
theorem right27_any (n:Nat) (x:Vl) (v:Value) (w:World) (hx:Rp w w.heap.size (n+2) x v) (hp:NiceV x) (hT:Lib.Utf8Tabs 2 3 w):
 Calls Tryz.prog 19 #[v] w (Gives (.bool (rightV (n+2) x)) w):=by
 cases hp with
 |plain h=>rw[right_of_plain _ h];exact right_plain_any _ x v w hx h hT
 |arr h=>rw[right_dims h];exact right_arr_any n _ _ _ v w hx h hT
end Go.Proofs.YtmhfioimgllgeaaGreatDoor
namespace Go.Proofs.YtmhfioimgllgeaaGreatDoor
open Go Go.RowKit Go.Shelf
/-- The cells of plain values. -/
def vsC (l:List Vl):List Value:=l.flatMap fun x=>(pcs x).toList
theorem vsC_snoc (l:List Vl) (x:Vl):vsC (l++ [x])=vsC l++(pcs x).toList:=by simp[vsC]
theorem vsC_len (l:List Vl):(vsC l).length=l.length*12:=by
 induction l with
 |nil=>rfl
 |cons x l ih=>
  have:vsC (x :: l)=(pcs x).toList++vsC l:=rfl
  rw[this,List.length_append,ih,List.length_cons,Nat.add_mul]
  show 12+_=_
  omega
theorem vsC_at (l:List Vl) (i j:Nat) {x:Vl} {u:Value} (hx:l[i]? =some x) (hj:(pcs x)[j]? =some u):(vsC l)[i*12+j]? =some u:=by
 have hj12:j<12:=(Array.getElem?_eq_some_iff.1 hj).1
 induction l generalizing i with
 |nil=>simp at hx
 |cons y l ih=>
  have e:vsC (y :: l)=(pcs y).toList++vsC l:=rfl
  rw[e]
  cases i with
  |zero=>
   injection hx with hx
   subst hx
   rw[Nat.zero_mul,Nat.zero_add,List.getElem?_append_left (by show j<12;exact hj12)]
   simpa using hj
  |succ i=>
   have h12:(pcs y).toList.length=12:=rfl
   rw[List.getElem?_append_right (by rw[h12];omega),h12,show(i+1)*12+j-12=i*12+j by omega]
   exact ih i (by simpa using hx)
theorem pcs_cell1 (x:Vl):∀u∈(pcs x).toList,u.oneCell'=true:=fun u hu=>Array.all_eq_true_iff_forall_mem.1 (pcs_one x).2 u (by simpa using hu)
/-- v is a slice of the plain values l, in memory of its own, from base on. -/
def World.vr (w:World) (base:Nat) (v:Value) (l:List Vl):Prop:=w.ownsRow base 39 12 v l.length (vsC l)
section
variable {w w' : World} {base : Nat} {v : Value} {l : List Vl}
theorem World.vr.below (h:World.vr w base v l) (hb:Below w.heap.size w w'):World.vr w' base v l:=
 World.ownsRow.kept (row:=none) h ⟨hb.os,hb.tape,hb.output,hb.size,fun k hk _=>hb.block k hk⟩ (by
  cases h:v.ownBlock with
  |none=>exact .inl rfl
  |some k=>exact .inr (by intro e;cases e))
theorem World.vr.grown {g:Nat} (h:World.vr w base v l) (hg:w.grownBy w' (some g)) (hlt:g<base):World.vr w' base v l:=
 World.ownsRow.kept h hg (by
  cases hv:v.ownBlock with
  |none=>exact .inl rfl
  |some k=>
   right
   intro e
   injection e with e
   have:=(World.ownsRow.lt h k hv).1
   omega)
theorem World.vr.alloc (h:World.vr w base v l) (o:Obj):World.vr (w.alloc o) base v l:=World.ownsRow.alloc h o
theorem World.vr.drew (h:World.vr w base v l):World.vr w.drew base v l:=h
theorem World.vr_nil :World.vr w base nilS []:=World.ownsRow_nil _ _ _ _
theorem World.vr.shape (h:World.vr w base v l):∃p c,v= .slice p l.length c:=by
 rcases h.2 with ⟨rfl,e⟩|⟨g,cap,cur,rfl,_⟩
 ·exact⟨none,0,by rw[e]⟩
 ·exact⟨_,_,rfl⟩
theorem World.vr.shape2 (h:World.vr w base v l):∃p n c,v= .slice p n c:=by
 obtain⟨p,c,e⟩:=h.shape
 exact⟨p,_,c,e⟩
theorem rp_plain {B n:Nat} {x:Vl} (h:plainV x=true):Rp w B (n+1) x (.agg (pcs x)):=by
 rcases plain_cases h with e|⟨p,e,hr⟩|⟨s,e,hs⟩|⟨b,e⟩|⟨m,e,h1,h2⟩<;>subst e
 ·exact rp_bare ok_zero rfl rfl rfl
 ·unfold RightP at hr
  exact rp_bare (ok_num (by unfold i64R;omega) (by unfold i64R;omega)) rfl rfl rfl
 ·have:s.size≤200:=by
   unfold txtOk at hs
   simp at hs
   exact hs.1
  exact rp_bare (ok_txt (by omega)) rfl rfl rfl
 ·exact rp_bare (ok_tr b) rfl rfl rfl
 ·exact rp_bare (ok_err (by unfold i64R;omega)) rfl rfl rfl
theorem World.vr.vsAt {B n:Nat} (h:World.vr w base v l) (hp:∀x∈l,plainV x=true) (hl:l.length≤1000) (hB:w.heap.size≤B) (hne:l= []→v=nilS):VsAt (Rp w B (n+1)) w B v l:=by
 rcases h.2 with ⟨rfl,e⟩|⟨g,cap,cur,rfl,hg,hb,h1,h2,h3,h4⟩
 ·have:=List.eq_nil_of_length_eq_zero e
  subst this
  exact VsAt.nil
 ·refine⟨_,cap,rfl,h1,h2,hl,hne,fun i x hi=>⟨g,0,pcs x,rfl,Nat.lt_of_lt_of_le (Array.getElem?_eq_some_iff.1 hb).1 hB,rfl,rp_plain (hp x (List.mem_of_getElem? hi)),fun j u hj=> ?_⟩⟩
  have:=World.ownsRow.cells h (g:=g) rfl (i*12+j) u (vsC_at l i j hi hj)
  rw[add_at]at this
  rw[Nat.add_assoc]
  exact this
end
theorem World.vr.mono {w:World} {base base':Nat} {v:Value} {l:List Vl} (h:World.vr w base v l) (hb:base'≤base):World.vr w base' v l:=by
 refine⟨h.1,?_⟩
 rcases h.2 with h2|⟨g,cap,cur,e,hg,h3⟩
 ·exact .inl h2
 ·exact .inr ⟨g,cap,cur,e,Nat.le_trans hb hg,h3⟩
theorem arr_ne {n:Nat} {r c:Int} {l:List Vl} (h:rightV (n+1) (arrV r c l)=true):l≠ []:=by
 intro e
 subst e
 have hd:=(right_arr.1 h).1
 have:0<r*c:=Int.mul_pos (by omega) (by omega)
 simp at hd
 omega
theorem arr_ok {n:Nat} {r c:Int} {l:List Vl} (h:rightV (n+1) (arrV r c l)=true):VOk (arrV r c l):=by
 have hd:=(right_arr.1 h).1
 refine⟨(show i64R 5 from i64_one (by decide) (by decide)),i64_zero,i64_zero,(show(⟨#[]⟩:ByteArray).size≤1000 by decide),i64_zero,?_,?_,i64_zero⟩
 ·show i64R r
  unfold i64R;omega
 ·show i64R c
  unfold i64R;omega
/-- An array whose values lie in a row of its own. -/
theorem rp_of_vr {w:World} {D B n m:Nat} {r c:Int} {l:List Vl} {L:Value} (h:World.vr w D L l) (hr:rightV (m+1) (arrV r c l)=true) (hB:w.heap.size≤B):Rp w B (n+2) (arrV r c l) (.agg (vcs (arrV r c l) L nilS nilS)):=
 rp_arr (h.vsAt (right_arr.1 hr).2 (by have:=(right_arr.1 hr).1;omega) hB (fun e=>absurd e (arr_ne hr))) (arr_ok hr)
/-- Such an array is handed back. -/
def HandsA (r c:Int) (l:List Vl) (w:World) (e:Ending) (w':World):Prop:=∃L,e= .returned (.agg (vcs (arrV r c l) L nilS nilS))∧World.vr w' w.heap.size L l∧Below w.heap.size w w'
theorem vr_one {w:World} {D:Nat} {r c:Int} {l:List Vl} {L:Value} (h:World.vr w D L l):OneC (vcs (arrV r c l) L nilS nilS):=by
 obtain⟨p,k,e⟩:=h.shape
 rw[e];exact vcs_one _ _ _ _ _ _ _ _ _ _
theorem info34b :(Tryz.prog.info? 39).map (fun i=>(i.zero,i.size,i.bytes))=some (some (.agg vz),12,152):=by kernel_rfl
theorem bslice_pcs (y:Vl) (w:World):(Instr.buildSlice 31 1 #[(0,.agg (pcs y))]).run Tryz.prog w= .ok (.slice (some ⟨w.heap.size,0,none⟩) 1 1) (w.alloc (.cells (pcs y) 39)):=by kernel_rfl
section
variable {ops : Array Oper} {rest : List Oper} {o : Oper} {a : Act} {w : World} {K : Act → World → Prop} {Q : Exit → Act → World → Prop}
theorem op_bslice34 {x:Operand} {y:Vl} (ho:o.op= .buildSlice 31 1 #[(0,x)]) (hx:a.eval x= .agg (pcs y)) (h:K (a.put o.dst (.slice (some ⟨w.heap.size,0,none⟩) 1 1)) (w.alloc (.cells (pcs y) 39))):o.wp Tryz.prog a w K Q:=by
 have hz:=bslice_pcs y w
 unfold Oper.wp execOp
 simp[ho,hx,hz]
 exact h
theorem op_pushv (s x:Operand) (ho:o.op= .call {callee:= .builtin .append,args:= #[s,x],argTypes:= #[31,31]})
 (base:Nat) (v:Value) (l:List Vl) (y:Vl) (g:Nat) (hown:World.vr w base v l) (hl:l.length≤2000) (hs:a.eval s=v) (hx:a.eval x= .slice (some ⟨g,0,none⟩) 1 1) (hc:World.vb w g (pcs y)) (hbase:base≤w.heap.size)
 (h:∀v' w',World.vr w' base v' (l++ [y])→w.grownBy w' v.ownBlock→K (a.put o.dst v') w'):o.wp Tryz.prog a w K Q:=by
 obtain⟨i0,hi,hz0,hz1,hz2⟩:=info_parts info34b
 refine wp_append_own w s x 31 ho base 39 i0 (.agg vz) 12 152 Tryz.underlying31 hi hz0 hz1 hz2 rfl (by decide) v l.length _ hs hown ⟨g,0,none⟩ 1 1 (pcs y).toList hx rfl ?_ (pcs_cell1 y) ?_ ?_ hbase ?_
 ·intro j u hj
  rw[add_at,Nat.zero_add]
  exact hc.cell (by simpa using hj)
 ·unfold maxLen;omega
 ·omega
 ·intro v' w' h1 h2 _
  refine h v' w' ?_ h2
  unfold World.vr
  rw[vsC_snoc,List.length_append]
  exact h1
theorem yields34 {x:Operand} {g:Nat} {cs:Array Value} (ho:o.op= .load 39 x) (hx:a.eval x= .pointer (some ⟨g,0,none⟩)) (hs:cs.size=12) (hn:World.vb w g cs):(execOp a.eval o).run Tryz.prog w= .ok (.value (.agg cs)) w:=by
 have:=run_loadVar_row (P:=Tryz.prog) w g 39 39 _ (0,0) _ hn Tryz.underlying39 rfl (by rw[hs];exact info34)
 unfold execOp
 simp only[ho,hx,Instr.loadAt,Instr.sureAddr,Sem.run_bind,Sem.run_pure,Result.andThen_ok,this]
end
end Go.Proofs.YtmhfioimgllgeaaGreatDoor
