/- Merged: Eqf, Eqi, Same. -/
import Derived.Test.YtkhohjdakcchdaaGreatDoorBh
import Derived.Test.YtkhohjdakcchdaaGreatDoorLib
namespace Go.Proofs.YtkhohjdakcchdaaGreatDoor
open Go Go.RowKit
/-- A truth is handed back: whether P; what lay there lies. -/
def Tells (P:Prop) (w:World) (e:Ending) (w':World):Prop:=∃b:Bool,e= .returned (.bool b)∧(b=true↔P)∧Below w.heap.size w w'
theorem add_at (g off j:Nat):(⟨g,off,none⟩:Addr).add j=⟨g,off+j,none⟩:=by
 unfold Addr.add
 by_cases h:j=0
 ·subst h;rfl
 ·rw[if_neg h]
theorem run_load_at {P:Program} (w:World) (g off:Nat) (ty:TypeId) (cs:Array Value) (d:TypeDesc) (hc:∀j u,cs[j]? =some u→w.cell? ⟨g,off+j,none⟩=some u)
 (hu:P.underlying ty=some d) (hd:(match d with| .struct _| .array _ _=>true|_=>false)=true) (hi:(P.info? ty).map (·.size)=some cs.size):
 (loadVar ty ⟨g,off,none⟩).run P w= .ok (.agg cs) w:=by
 have hl:(loadCells ⟨g,off,none⟩ cs.toList.length).run P w= .ok cs.toList.toArray w:=
  run_loadCells_list (P:=P) w ⟨g,off,none⟩ cs.toList (fun j v hv=>by
   rw[add_at]
   exact hc j v (by simpa using hv))
 cases hq:P.info? ty with
 |none=>simp[hq]at hi
 |some i=>
  have hs:i.size=cs.size:=by simpa [hq]using hi
  have hagg:(isAgg ty).run P w= .ok true w:=by
   unfold isAgg
   rw[Sem.run_bind,run_underlying hu w]
   cases d<;>simp_all
  simp only[Array.length_toList,Array.toArray_toList]at hl
  simp[loadVar,Sem.run_bind,hagg,sizeOf,typeInfo,hq,hs,hl]
section
variable {ops : Array Oper} {rest : List Oper} {o : Oper} {a : Act} {w : World} {K : Act → World → Prop} {Q : Exit → Act → World → Prop}
theorem op_load34at {x:Operand} {g off:Nat} {cs:Array Value} (ho:o.op= .load 34 x) (hx:a.eval x= .pointer (some ⟨g,off,none⟩)) (hs:cs.size=12)
 (hc:∀j u,cs[j]? =some u→w.cell? ⟨g,off+j,none⟩=some u) (h:K (a.put o.dst (.agg cs)) w):o.wp Tryz.prog a w K Q:=by
 unfold Oper.wp execOp
 simp only[ho,hx,Instr.loadAt,Instr.sureAddr,Sem.run_bind,Sem.run_pure,Result.andThen_ok,run_load_at w g off 34 cs _ hc Tryz.underlying34 rfl (by rw[hs];exact info34)]
 exact h
theorem wpList_load34at {x:Operand} {g off:Nat} {cs:Array Value} (hgd:o.guard=none) (ho:o.op= .load 34 x) (hx:a.eval x= .pointer (some ⟨g,off,none⟩)) (hs:cs.size=12)
 (hc:∀j u,cs[j]? =some u→w.cell? ⟨g,off+j,none⟩=some u) (h:wpList Tryz.prog ops Q rest (a.put o.dst (.agg cs)) w):wpList Tryz.prog ops Q (o :: rest) a w:=
 wpList_plain hgd fun _ hK=>op_load34at ho hx hs hc (hK _ _ h)
end
theorem enters26 :∀args w,(callFunc 26 args).run Tryz.prog w= .ok (.enter 26 args) w:=enters_of Tryz.func26 (by kernel_rfl) rfl
theorem Rp.size {w:World} {B n:Nat} {x:Vl} {cs:Array Value} (h:Rp w B n x (.agg cs)):cs.size=12:=by
 cases n with
 |zero=>exact h.elim
 |succ n=>
  obtain⟨L,Bs,Ps,h1,_⟩:=h
  injection h1 with h1
  rw[h1];rfl
theorem VsAt.shape {R:Vl→Value→Prop} {w:World} {B:Nat} {L:Value} {l:List Vl} (h:VsAt R w B L l):∃p c,L= .slice p l.length c∧l.length≤c∧l.length≤1000:=by
 obtain⟨p,c,h1,h2,_,h4,_⟩:=h
 exact⟨p,c,h1,h2,h4⟩
theorem Rp.one {w:World} {B n:Nat} {x:Vl} {cs:Array Value} (h:Rp w B n x (.agg cs)):OneC cs:=by
 cases n with
 |zero=>exact h.elim
 |succ n=>
  obtain⟨L,Bs,Ps,h1,_,h3,h4,h5,_⟩:=h
  injection h1 with h1
  obtain⟨p,c,rfl,_⟩:=h3
  obtain⟨p',c',rfl,_⟩:=h4
  obtain⟨p2,c2,rfl,_⟩:=h5
  rw[h1]
  exact vcs_one _ _ _ _ _ _ _ _ _ _
set_option maxRecDepth 100000 in
set_option maxHeartbeats 4000000 in
theorem eqfunc_any (n:Nat) (IH:∀(x y:Vl) (v u:Value) (w:World),Rp w w.heap.size n x v→Rp w w.heap.size n y u→Calls Tryz.prog 26 #[v,u] w (Tells (x=y) w))
 (l r:List Vl) (L R:Value) (w:World) (hl:VsAt (Rp w w.heap.size n) w w.heap.size L l) (hr:VsAt (Rp w w.heap.size n) w w.heap.size R r):
 Calls Tryz.prog 63 #[L,R,.func (.func 26) #[] #[]] w (Tells (l=r) w):=by
 obtain⟨p,c,rfl,l1,l2,l3,_,HL⟩:=hl
 obtain⟨p',c',rfl,r1,r2,r3,_,HR⟩:=hr
 have HIH:=Lib.hid IH
 have HLL:=Lib.hid HL
 have HRR:=Lib.hid HR
 clear IH HL HR
 unfold maxLen at l2 r2
 have e26:=enters26
 by_cases hlen:l.length=r.length
 ·have HLen:=Lib.hid hlen
  rw[hlen]at l1 l3⊢
  clear hlen
  have hne:((r.length:Int) != (r.length:Int))=false:=by simp
  go_enter Tryz.func63,Tryz.ntmps63
  go_wp2_with fail
  go_loopw [17] (fun i wr=>∃K:Nat,K≤r.length∧i= .int .i64 (K:Int)∧Below w.heap.size w wr∧Hid (∀i,i<K→l[i]? =r[i]?)) (fun i _=>r.length-(intOf i).toNat)
  case atStart=>exact⟨0,Nat.zero_le _,rfl,Below.refl _ _,Lib.hid fun i h=>by omega⟩
  case round=>
   obtain⟨K,hK,rfl,hB,HE⟩:=hrel
   by_cases hlt:K<r.length
   ·have hKI:(K:Int)<(r.length:Int):=by omega
    obtain⟨x,hx⟩:∃x,l[K]? =some x:=⟨_,List.getElem?_eq_getElem (by rw[HLen.out];exact hlt)⟩
    obtain⟨y,hy⟩:∃y,r[K]? =some y:=⟨_,List.getElem?_eq_getElem (by omega)⟩
    obtain⟨g,off,cs,rfl,hg,hs,hx1,hx2⟩:=HLL.out K x hx
    obtain⟨g',off',cs',rfl,hg',hs',hy1,hy2⟩:=HRR.out K y hy
    have HC:=Lib.hid (show ∀W,Below w.heap.size w W→∀j u,cs[j]? =some u→W.cell? ⟨g,off+K*12+j,none⟩=some u from fun W hW j u hj=>(hW.cell (p:=⟨g,_,none⟩) hg).trans (hx2 j u hj))
    have HC':=Lib.hid (show ∀W,Below w.heap.size w W→∀j u,cs'[j]? =some u→W.cell? ⟨g',off'+K*12+j,none⟩=some u from fun W hW j u hj=>(hW.cell (p:=⟨g',_,none⟩) hg').trans (hy2 j u hj))
    have HO:=Lib.hid hx1.one
    have HO':=Lib.hid hy1.one
    have HX:=Lib.hid (show ∀W,Below w.heap.size w W→w.heap.size≤W.heap.size→Rp W W.heap.size n x (.agg cs)from fun W hW hz=>hx1.below hW hz)
    have HY:=Lib.hid (show ∀W,Below w.heap.size w W→w.heap.size≤W.heap.size→Rp W W.heap.size n y (.agg cs')from fun W hW hz=>hy1.below hW hz)
    have hBz:=hB.size
    have Hx:=Lib.hid hx
    have Hy:=Lib.hid hy
    clear hx hy hx1 hy1 hx2 hy2 hs hs'
    go_wp2_with (first|refine wpList_load34at rfl rfl rfl HO.out.1 (HC.out _ hB) ?_|refine wpList_load34at rfl rfl rfl HO'.out.1 (HC'.out _ hB1) ?_|(refine wpList_alloc34 rfl rfl ?_)|(refine wpList_store34 rfl rfl rfl rfl (World.vb_new' _ _ _ rfl) (by rfl) HO.out ?_;intro w1 hn1 hg1 hz1;have hB1:=(hB.alloc hBz (.cells vz 34)).grown hg1 (by simp;omega) (fun k9 hk9=>by cases hk9;omega);rw[World.size_alloc]at hz1)|(refine wpList_store34 rfl rfl rfl rfl (World.vb_new' _ _ _ rfl) (by rfl) HO'.out ?_;intro w2 hn2 hg2 hz2;have hn1:=(hn1.alloc (.cells vz 34)).grown hg2 (by intro e9;injection e9 with e9;omega);have hB2:=(hB1.alloc (by omega) (.cells vz 34)).grown hg2 (by simp;omega) (fun k9 hk9=>by cases hk9;omega);rw[World.size_alloc]at hz2;(try rw[hz1]at hn2))|refine wpList_load34 rfl rfl rfl hn1 HO.out.1 ?_|refine wpList_load34 rfl rfl rfl hn2 HO'.out.1 ?_)
    refine(HIH.out x y _ _ _ (HX.out _ hB2 (by omega)) (HY.out _ hB2 (by omega))).mono ?_
    rintro e3 w3 ⟨b,rfl,hb,hB3⟩
    have hB4:=hB2.trans (hB3.mono (by omega))
    cases b with
    |true=>
     have HE':Hid (∀i,i<K+1→l[i]? =r[i]?):=Lib.hid fun i hi=>by
      by_cases e:i=K
      ·subst e;rw[Hx.out,Hy.out,hb.1 rfl]
      ·exact HE.out i (by omega)
     clear hb hB3 hn1 hn2 hg1 hg2
     go_wp2_with fail
     go_roundw
     case rel=>exact⟨K+1,by omega,by go_num,hB4,HE'⟩
     case measure=>simp[intOf];omega
    |false=>
     have hne2:¬l=r:=fun e=>by
      subst e
      have:=Hx.out.symm.trans Hy.out
      injection this with this
      exact absurd (hb.2 this) (by decide)
     have HN:=Lib.hid hne2
     clear hne2 hb hB3 hn1 hn2 hg1 hg2
     go_wp2_with fail
     go_ret
     exact⟨false,rfl,⟨(fun h=>by cases h),fun h=>absurd h HN.out⟩,hB4⟩
   ·have hKI:¬(K:Int)<(r.length:Int):=by omega
    have HN:Hid (l=r):=by
     show _=_
     apply List.ext_getElem?
     intro i
     by_cases hi:i<K
     ·exact HE.out i hi
     ·rw[List.getElem?_eq_none (by rw[HLen.out];omega),List.getElem?_eq_none (by omega)]
    go_wp2_with fail
    go_ret
    exact⟨true,rfl,⟨fun _=>HN.out,fun _=>rfl⟩,hB⟩
 ·have hne:((l.length:Int) != (r.length:Int))=true:=by simp;omega
  have HN:Hid (¬l=r):=fun e=>hlen (by rw[e])
  clear hlen
  go_enter Tryz.func63,Tryz.ntmps63
  go_wp2_with fail
  go_ret
  exact⟨false,rfl,⟨(fun h=>by cases h),fun h=>absurd h HN.out⟩,Below.refl _ _⟩
end Go.Proofs.YtkhohjdakcchdaaGreatDoor
namespace Go.Proofs.YtkhohjdakcchdaaGreatDoor
open Go Go.RowKit Go.Shelf
theorem ite_yes {c:Prop} [Decidable c] {p q:Prop} (hc:c) (h:p):if c then p else q:=by rw[if_pos hc];exact h
theorem info71 :(Tryz.prog.info? 71).map (·.size)=some 18:=by kernel_rfl
theorem quiet_load71 {o:Oper} {a:Act} {C:World→Prop} {K:Act→Prop} {x:Operand} {g off:Nat} (ho:o.op= .load 71 x) (hx:a.eval x= .pointer (some ⟨g,off,none⟩))
 (hc:∀w,C w→∀j u,insC[j]? =some u→w.cell? ⟨g,off+j,none⟩=some u) (h:K (a.put o.dst (.agg insC))):o.quiet Tryz.prog a C K:=by
 refine⟨.agg insC,fun w hw=> ?_,h⟩
 unfold Oper.quietAt execOp
 simp only[ho,hx,Instr.loadAt,Instr.sureAddr,Sem.run_bind,Sem.run_pure,Result.andThen_ok,run_load_at w g off 71 insC _ (hc w hw) Tryz.underlying71 rfl info71]
 exact⟨rfl,rfl⟩
theorem neq_ins (w:World):(binOp .neq 71 (.agg insC) (.agg insC)).run Tryz.prog w= .ok (.bool false) w:=by kernel_rfl
set_option maxRecDepth 100000 in
set_option maxHeartbeats 4000000 in
theorem eqins_tt (g off c g' off' c':Nat) (w:World) (_hc:1≤c) (_hc':1≤c') (_hm:c≤maxLen) (_hm':c'≤maxLen) (h:∀j u,insC[j]? =some u→w.cell? ⟨g,off+j,none⟩=some u) (h':∀j u,insC[j]? =some u→w.cell? ⟨g',off'+j,none⟩=some u):
 Calls Tryz.prog 65 #[.slice (some ⟨g,off,none⟩) 1 c,.slice (some ⟨g',off',none⟩) 1 c'] w fun e w'=>e= .returned (.bool true)∧∃k,w'=w.drewN k:=by
 unfold maxLen at _hm _hm'
 have H:=Lib.hid h
 have H':=Lib.hid h'
 clear h h'
 go_enter Tryz.func65,Tryz.ntmps65
 go_wp2_with fail
 go_loopw [13] (fun i wr=>∃K:Nat,K≤1∧i= .int .i64 (K:Int)∧∃k,wr=w.drewN k) (fun i _=>1-(intOf i).toNat)
 case atStart=>exact⟨0,by omega,rfl,0,rfl⟩
 case round=>
  obtain⟨K,hK,rfl,k0,rfl⟩:=hrel
  rcases(by omega:K=0∨K=1)with rfl|rfl
  ·go_wp2_with fail
   refine wp_region_quiet_lit (by kernel_rfl) (by kernel_rfl) ?_
   iterate 3 quiet_step (fail)
   refine wpQuiet_step (fun K hK=> ?_)
   refine ite_yes rfl ?_
   refine quiet_load71 rfl rfl (fun w9 h9 j u hj=>by obtain⟨n9,rfl⟩:=h9;exact H.out j u hj) (hK _ ?_)
   clear hK K
   iterate 3 quiet_step (fail)
   refine wpQuiet_step (fun K hK=> ?_)
   refine ite_yes rfl ?_
   refine quiet_load71 rfl rfl (fun w9 h9 j u hj=>by obtain⟨n9,rfl⟩:=h9;exact H'.out j u hj) (hK _ ?_)
   clear hK K
   have hn9:=neq_ins
   quiet_step (fail)
   clear hn9
   refine wpQuiet_nil ?_
   rintro _ ⟨nq,rfl⟩
   go_wp2_with fail
   go_roundw
   case rel=>exact⟨1,by omega,by go_num,by first|exact⟨_,rfl⟩|(simp only[World.drewN_drewN];exact⟨_,rfl⟩)⟩
   case measure=>simp[intOf]
  ·go_wp2_with fail
   go_ret
   exact⟨rfl,_,rfl⟩
theorem enters65 :∀args w,(callFunc 65 args).run Tryz.prog w= .ok (.enter 65 args) w:=enters_of Tryz.func65 (by kernel_rfl) rfl
theorem below_drewN' {w:World} (k:Nat):Below w.heap.size w (w.drewN k):=below_drewN (Below.refl _ _) k
set_option maxRecDepth 100000 in
set_option maxHeartbeats 4000000 in
theorem eqins_any (b1 b2:Bool) (v1 v2:Value) (w:World) (h1:InAt w w.heap.size b1 v1) (h2:InAt w w.heap.size b2 v2):Calls Tryz.prog 65 #[v1,v2] w (Tells (b1=b2) w):=by
 unfold InAt at h1 h2
 cases b1 with
 |true=>
  rw[if_pos rfl]at h1
  obtain⟨g,off,c,rfl,hc1,hc2,_,hc⟩:=h1
  cases b2 with
  |true=>
   rw[if_pos rfl]at h2
   obtain⟨g',off',c',rfl,hc1',hc2',_,hc'⟩:=h2
   refine(eqins_tt g off c g' off' c' w hc1 hc1' hc2 hc2' hc hc').mono ?_
   rintro e w' ⟨rfl,k,rfl⟩
   exact⟨true,rfl,⟨fun _=>rfl,fun _=>rfl⟩,below_drewN' k⟩
  |false=>
   rw[if_neg (by decide)]at h2
   subst h2
   clear hc
   go_enter Tryz.func65,Tryz.ntmps65
   go_wp2_with fail
   go_ret
   exact⟨false,rfl,⟨(fun h=>by cases h),(fun h=>by cases h)⟩,Below.refl _ _⟩
 |false=>
  rw[if_neg (by decide)]at h1
  subst h1
  cases b2 with
  |true=>
   rw[if_pos rfl]at h2
   obtain⟨g',off',c',rfl,hc1',hc2',_,hc'⟩:=h2
   clear hc'
   go_enter Tryz.func65,Tryz.ntmps65
   go_wp2_with fail
   go_ret
   exact⟨false,rfl,⟨(fun h=>by cases h),(fun h=>by cases h)⟩,Below.refl _ _⟩
  |false=>
   rw[if_neg (by decide)]at h2
   subst h2
   go_enter Tryz.func65,Tryz.ntmps65
   go_wp2_with fail
   go_loop [13] (fun i=>i= .int .i64 0) (fun _=>0)
   case atStart=>rfl
   case round=>
    obtain rfl:=hrel
    go_wp2_with fail
    go_ret
    exact⟨true,rfl,by simp,Below.refl _ _⟩
set_option maxRecDepth 100000 in
set_option maxHeartbeats 4000000 in
theorem eqblk_any (l r:List Bool) (L R:Value) (w:World) (hl:BsAt w w.heap.size L l) (hr:BsAt w w.heap.size R r):
 Calls Tryz.prog 64 #[L,R,.func (.func 65) #[] #[]] w (Tells (l=r) w):=by
 obtain⟨p,c,rfl,l1,l2,l3,HL⟩:=hl
 obtain⟨p',c',rfl,r1,r2,r3,HR⟩:=hr
 have HLL:=Lib.hid HL
 have HRR:=Lib.hid HR
 clear HL HR
 unfold maxLen at l2 r2
 have e65:=enters65
 by_cases hlen:l.length=r.length
 ·have HLen:=Lib.hid hlen
  rw[hlen]at l1 l3⊢
  clear hlen
  have hne:((r.length:Int) != (r.length:Int))=false:=by simp
  go_enter Tryz.func64,Tryz.ntmps64
  go_wp2_with fail
  go_loopw [17] (fun i wr=>∃K:Nat,K≤r.length∧i= .int .i64 (K:Int)∧Below w.heap.size w wr∧Hid (∀i,i<K→l[i]? =r[i]?)) (fun i _=>r.length-(intOf i).toNat)
  case atStart=>exact⟨0,Nat.zero_le _,rfl,Below.refl _ _,Lib.hid fun i h=>by omega⟩
  case round=>
   obtain⟨K,hK,rfl,hB,HE⟩:=hrel
   by_cases hlt:K<r.length
   ·have hKI:(K:Int)<(r.length:Int):=by omega
    obtain⟨x,hx⟩:∃x,l[K]? =some x:=⟨_,List.getElem?_eq_getElem (by rw[HLen.out];exact hlt)⟩
    obtain⟨y,hy⟩:∃y,r[K]? =some y:=⟨_,List.getElem?_eq_getElem (by omega)⟩
    obtain⟨g,off,u,rfl,hg,hx1,hx2⟩:=HLL.out K x hx
    obtain⟨g',off',v,rfl,hg',hy1,hy2⟩:=HRR.out K y hy
    have hBz:=hB.size
    have c0:=(hB.cell (p:=⟨g,off+K,none⟩) hg).trans hx2
    have c1:=(hB.cell (p:=⟨g',off'+K,none⟩) hg').trans hy2
    have HX:=Lib.hid (hx1.keep (fun p9 hp9=>hB.cell hp9) hBz)
    have HY:=Lib.hid (hy1.keep (fun p9 hp9=>hB.cell hp9) hBz)
    have Hx:=Lib.hid hx
    have Hy:=Lib.hid hy
    clear hx hy hx1 hy1 hx2 hy2
    go_wp2_with fail
    refine(eqins_any x y u v _ HX.out HY.out).mono ?_
    rintro e3 w3 ⟨b,rfl,hb,hB3⟩
    have hB4:=hB.trans (hB3.mono hBz)
    cases b with
    |true=>
     have HE':Hid (∀i,i<K+1→l[i]? =r[i]?):=Lib.hid fun i hi=>by
      by_cases e:i=K
      ·subst e;rw[Hx.out,Hy.out,hb.1 rfl]
      ·exact HE.out i (by omega)
     clear hb hB3 c0 c1
     go_wp2_with fail
     go_roundw
     case rel=>exact⟨K+1,by omega,by go_num,hB4,HE'⟩
     case measure=>simp[intOf];omega
    |false=>
     have hne2:¬l=r:=fun e=>by
      subst e
      have:=Hx.out.symm.trans Hy.out
      injection this with this
      exact absurd (hb.2 this) (by decide)
     have HN:=Lib.hid hne2
     clear hne2 hb hB3 c0 c1
     go_wp2_with fail
     go_ret
     exact⟨false,rfl,⟨(fun h=>by cases h),fun h=>absurd h HN.out⟩,hB4⟩
   ·have hKI:¬(K:Int)<(r.length:Int):=by omega
    have HN:Hid (l=r):=by
     show _=_
     apply List.ext_getElem?
     intro i
     by_cases hi:i<K
     ·exact HE.out i hi
     ·rw[List.getElem?_eq_none (by rw[HLen.out];omega),List.getElem?_eq_none (by omega)]
    go_wp2_with fail
    go_ret
    exact⟨true,rfl,⟨fun _=>HN.out,fun _=>rfl⟩,hB⟩
 ·have hne:((l.length:Int) != (r.length:Int))=true:=by simp;omega
  have HN:Hid (¬l=r):=fun e=>hlen (by rw[e])
  clear hlen
  go_enter Tryz.func64,Tryz.ntmps64
  go_wp2_with fail
  go_ret
  exact⟨false,rfl,⟨(fun h=>by cases h),fun h=>absurd h HN.out⟩,Below.refl _ _⟩
set_option maxRecDepth 100000 in
set_option maxHeartbeats 4000000 in
theorem eqstr_any (l r:List ByteArray) (L R:Value) (w:World) (hl:PsAt w w.heap.size L l) (hr:PsAt w w.heap.size R r):
 Calls Tryz.prog 66 #[L,R] w (Tells (l=r) w):=by
 obtain⟨p,c,rfl,l1,l2,l3,HL⟩:=hl
 obtain⟨p',c',rfl,r1,r2,r3,HR⟩:=hr
 unfold maxLen at l2 r2
 by_cases hlen:l.length=r.length
 ·by_cases h0:l.length=0
  ·have e1:l= []:=List.length_eq_zero_iff.1 h0
   have e2:r= []:=List.length_eq_zero_iff.1 (by omega)
   subst e1 e2
   refine(Tryz.slices_Equal_string_empty p p' c 0 c' w (by omega)).mono ?_
   rintro e w' ⟨rfl,rfl⟩
   exact⟨true,rfl,⟨fun _=>rfl,fun _=>rfl⟩,Below.refl _ _⟩
  ·obtain⟨s0,hs0⟩:∃s,l[0]? =some s:=⟨_,List.getElem?_eq_getElem (by omega)⟩
   obtain⟨s1,hs1⟩:∃s,r[0]? =some s:=⟨_,List.getElem?_eq_getElem (by omega)⟩
   obtain⟨_,g,off,rfl,_⟩:=HL 0 s0 hs0
   obtain⟨_,g',off',rfl,_⟩:=HR 0 s1 hs1
   have k1:∀j,j<l.length→w.cell? ⟨g,off+j,none⟩=some (.string (l.getD j ByteArray.empty)):=fun j hj=>by
    obtain⟨_,g2,off2,e,_,h⟩:=HL j l[j] (List.getElem?_eq_getElem hj)
    injection e with e
    injection e with e1 e2
    subst e1 e2
    rw[h,List.getD_eq_getElem?_getD,List.getElem?_eq_getElem hj];rfl
   have k2:∀j,j<r.length→w.cell? ⟨g',off'+j,none⟩=some (.string (r.getD j ByteArray.empty)):=fun j hj=>by
    obtain⟨_,g2,off2,e,_,h⟩:=HR j r[j] (List.getElem?_eq_getElem hj)
    injection e with e
    injection e with e1 e2
    subst e1 e2
    rw[h,List.getD_eq_getElem?_getD,List.getElem?_eq_getElem hj];rfl
   refine(Tryz.slices_Equal_string g off l.length c g' off' r.length c' l r w (Nat.le_refl _) (Nat.le_refl _) (by omega) (by omega) k1 k2).mono ?_
   rintro e w' ⟨rfl,q,rfl⟩
   rw[List.take_length,List.take_length]
   exact⟨_,rfl,by simp,below_drewN' q⟩
 ·have hne:((l.length:Int) != (r.length:Int))=true:=by simp;omega
  have HN:Hid (¬l=r):=fun e=>hlen (by rw[e])
  clear hlen HL HR
  go_enter Tryz.func66,Tryz.ntmps66
  go_wp2_with fail
  go_ret
  exact⟨false,rfl,⟨(fun h=>by cases h),fun h=>absurd h HN.out⟩,Below.refl _ _⟩
end Go.Proofs.YtkhohjdakcchdaaGreatDoor
namespace Go.Proofs.YtkhohjdakcchdaaGreatDoor
open Go Go.RowKit Go.Shelf
theorem tells_of {f:Nat} {args:Array Value} {w:World} {P Q:Prop} (h:P↔Q) (hc:Calls Tryz.prog f args w (Tells Q w)):Calls Tryz.prog f args w (Tells P w):=hc.mono fun _ _ ⟨b,h1,h2,h3⟩=>⟨b,h1,h2.trans h.symm,h3⟩
theorem str_ne {s t:ByteArray} (h:¬s=t):¬s.toList=t.toList:=fun e=>h (by
 rw[ByteArray.toList_eq,ByteArray.toList_eq]at e
 exact ByteArray.ext (Array.toList_inj.1 e))
set_option maxRecDepth 100000 in
set_option maxHeartbeats 8000000 in
theorem same_step (n:Nat) (ih:∀(x y:Vl) (v u:Value) (w:World),Rp w w.heap.size n x v→Rp w w.heap.size n y u→Calls Tryz.prog 26 #[v,u] w (Tells (x=y) w))
 (x y:Vl) (v u:Value) (w:World) (hx:Rp w w.heap.size (n+1) x v) (hy:Rp w w.heap.size (n+1) y u):Calls Tryz.prog 26 #[v,u] w (Tells (x=y) w):=by
 obtain⟨L,Bs,Ps,rfl,_,hl,hb,hp,_⟩:=hx
 obtain⟨L',Bs',Ps',rfl,_,hl',hb',hp',_⟩:=hy
 obtain⟨k,m,e,s,b,err,rows,cols,l,fn,bl,ps⟩:=x
 obtain⟨k',m',e',s',b',err',rows',cols',l',fn',bl',ps'⟩:=y
 obtain⟨P,hP⟩:∃P:Prop,((⟨k,m,e,s,b,err,rows,cols,l,fn,bl,ps⟩:Vl)=⟨k',m',e',s',b',err',rows',cols',l',fn',bl',ps'⟩)↔P:=⟨_,Iff.rfl⟩
 refine tells_of hP ?_
 have HP:=Lib.hid hP
 clear hP
 have HIH:=Lib.hid ih
 obtain⟨C,hC⟩:∃C,vcs ⟨k,m,e,s,b,err,rows,cols,l,fn,bl,ps⟩ L Bs Ps=C:=⟨_,rfl⟩
 obtain⟨C',hC'⟩:∃C,vcs ⟨k',m',e',s',b',err',rows',cols',l',fn',bl',ps'⟩ L' Bs' Ps'=C:=⟨_,rfl⟩
 rw[hC,hC']
 have HC:=Lib.hid hC
 have HC':=Lib.hid hC'
 have x0:C[0]? =some (.int .i64 k):=by rw[←hC];rfl
 have x1:C[1]? =some (.int .i64 m):=by rw[←hC];rfl
 have x2:C[2]? =some (.int .i64 e):=by rw[←hC];rfl
 have x3:C[3]? =some (.string s):=by rw[←hC];rfl
 have x4:C[4]? =some (.bool b):=by rw[←hC];rfl
 have x5:C[5]? =some (.int .i64 err):=by rw[←hC];rfl
 have x6:C[6]? =some (.int .i64 rows):=by rw[←hC];rfl
 have x7:C[7]? =some (.int .i64 cols):=by rw[←hC];rfl
 have x8:C[8]? =some (L):=by rw[←hC];rfl
 have x9:C[9]? =some (.int .i64 fn):=by rw[←hC];rfl
 have x10:C[10]? =some (Bs):=by rw[←hC];rfl
 have x11:C[11]? =some (Ps):=by rw[←hC];rfl
 have y0:C'[0]? =some (.int .i64 k'):=by rw[←hC'];rfl
 have y1:C'[1]? =some (.int .i64 m'):=by rw[←hC'];rfl
 have y2:C'[2]? =some (.int .i64 e'):=by rw[←hC'];rfl
 have y3:C'[3]? =some (.string s'):=by rw[←hC'];rfl
 have y4:C'[4]? =some (.bool b'):=by rw[←hC'];rfl
 have y5:C'[5]? =some (.int .i64 err'):=by rw[←hC'];rfl
 have y6:C'[6]? =some (.int .i64 rows'):=by rw[←hC'];rfl
 have y7:C'[7]? =some (.int .i64 cols'):=by rw[←hC'];rfl
 have y8:C'[8]? =some (L'):=by rw[←hC'];rfl
 have y9:C'[9]? =some (.int .i64 fn'):=by rw[←hC'];rfl
 have y10:C'[10]? =some (Bs'):=by rw[←hC'];rfl
 have y11:C'[11]? =some (Ps'):=by rw[←hC'];rfl
 clear hC hC' ih
 by_cases hne:¬k=k'
 ·have HN:Hid (¬P):=Lib.hid fun h=>hne (congrArg Vl.k (HP.out.2 h))
  have f0:(k != k')=true:=by simpa using hne
  clear hne
  go_enter Tryz.func26,Tryz.ntmps26
  go_wp2_with fail
  go_ret
  exact⟨false,rfl,⟨(fun h=>by cases h),fun h=>absurd h HN.out⟩,((Below.refl _ w).alloc (Nat.le_refl _) _).alloc (by simp) _⟩
 have hne:=Classical.not_not.1 hne
 subst hne
 by_cases hne:¬m=m'
 ·have HN:Hid (¬P):=Lib.hid fun h=>hne (congrArg Vl.m (HP.out.2 h))
  have f0:(m==m')=false:=by simpa using hne
  clear hne
  go_enter Tryz.func26,Tryz.ntmps26
  go_wp2_with fail
  go_ret
  exact⟨false,rfl,⟨(fun h=>by cases h),fun h=>absurd h HN.out⟩,((Below.refl _ w).alloc (Nat.le_refl _) _).alloc (by simp) _⟩
 have hne:=Classical.not_not.1 hne
 subst hne
 by_cases hne:¬e=e'
 ·have HN:Hid (¬P):=Lib.hid fun h=>hne (congrArg Vl.e (HP.out.2 h))
  have f0:(e==e')=false:=by simpa using hne
  clear hne
  go_enter Tryz.func26,Tryz.ntmps26
  go_wp2_with fail
  go_ret
  exact⟨false,rfl,⟨(fun h=>by cases h),fun h=>absurd h HN.out⟩,((Below.refl _ w).alloc (Nat.le_refl _) _).alloc (by simp) _⟩
 have hne:=Classical.not_not.1 hne
 subst hne
 by_cases hne:¬s=s'
 ·have HN:Hid (¬P):=Lib.hid fun h=>hne (congrArg Vl.s (HP.out.2 h))
  have f0:=str_ne hne
  clear hne
  go_enter Tryz.func26,Tryz.ntmps26
  go_wp2_with fail
  go_ret
  exact⟨false,rfl,⟨(fun h=>by cases h),fun h=>absurd h HN.out⟩,((Below.refl _ w).alloc (Nat.le_refl _) _).alloc (by simp) _⟩
 have hne:=Classical.not_not.1 hne
 subst hne
 by_cases hne:¬b=b'
 ·have HN:Hid (¬P):=Lib.hid fun h=>hne (congrArg Vl.b (HP.out.2 h))
  have f0:(b==b')=false:=by simpa using hne
  clear hne
  go_enter Tryz.func26,Tryz.ntmps26
  go_wp2_with fail
  go_ret
  exact⟨false,rfl,⟨(fun h=>by cases h),fun h=>absurd h HN.out⟩,((Below.refl _ w).alloc (Nat.le_refl _) _).alloc (by simp) _⟩
 have hne:=Classical.not_not.1 hne
 subst hne
 by_cases hne:¬err=err'
 ·have HN:Hid (¬P):=Lib.hid fun h=>hne (congrArg Vl.err (HP.out.2 h))
  have f0:(err != err')=true:=by simpa using hne
  clear hne
  go_enter Tryz.func26,Tryz.ntmps26
  go_wp2_with fail
  go_ret
  exact⟨false,rfl,⟨(fun h=>by cases h),fun h=>absurd h HN.out⟩,((Below.refl _ w).alloc (Nat.le_refl _) _).alloc (by simp) _⟩
 have hne:=Classical.not_not.1 hne
 subst hne
 by_cases hne:¬rows=rows'
 ·have HN:Hid (¬P):=Lib.hid fun h=>hne (congrArg Vl.rows (HP.out.2 h))
  have f0:(rows != rows')=true:=by simpa using hne
  clear hne
  go_enter Tryz.func26,Tryz.ntmps26
  go_wp2_with fail
  go_ret
  exact⟨false,rfl,⟨(fun h=>by cases h),fun h=>absurd h HN.out⟩,((Below.refl _ w).alloc (Nat.le_refl _) _).alloc (by simp) _⟩
 have hne:=Classical.not_not.1 hne
 subst hne
 by_cases hne:¬cols=cols'
 ·have HN:Hid (¬P):=Lib.hid fun h=>hne (congrArg Vl.cols (HP.out.2 h))
  have f0:(cols != cols')=true:=by simpa using hne
  clear hne
  go_enter Tryz.func26,Tryz.ntmps26
  go_wp2_with fail
  go_ret
  exact⟨false,rfl,⟨(fun h=>by cases h),fun h=>absurd h HN.out⟩,((Below.refl _ w).alloc (Nat.le_refl _) _).alloc (by simp) _⟩
 have hne:=Classical.not_not.1 hne
 subst hne
 by_cases hne:¬fn=fn'
 ·have HN:Hid (¬P):=Lib.hid fun h=>hne (congrArg Vl.fn (HP.out.2 h))
  have f0:(fn != fn')=true:=by simpa using hne
  clear hne
  go_enter Tryz.func26,Tryz.ntmps26
  go_wp2_with fail
  go_ret
  exact⟨false,rfl,⟨(fun h=>by cases h),fun h=>absurd h HN.out⟩,((Below.refl _ w).alloc (Nat.le_refl _) _).alloc (by simp) _⟩
 have hne:=Classical.not_not.1 hne
 subst hne
 go_enter Tryz.func26,Tryz.ntmps26
 go_wp2_with fail
 obtain⟨W,hW⟩:∃W,W=(w.alloc (.cells C 34)).alloc (.cells C' 34):=⟨_,rfl⟩
 rw[←hW]
 have hvx:World.vb W w.heap.size C:=by rw[hW];exact(World.vb_new w C).alloc _
 have hvy:World.vb W (w.heap.size+1) C':=by rw[hW];exact World.vb_new' _ _ _ (by simp)
 have hB:Below w.heap.size w W:=by rw[hW];exact((Below.refl _ w).alloc (Nat.le_refl _) _).alloc (by simp) _
 have hz:w.heap.size+1<W.heap.size:=by rw[hW];simp
 clear hW
 have HLL:=Lib.hid (show ∀w3,Below w.heap.size w w3→w.heap.size≤w3.heap.size→VsAt (Rp w3 w3.heap.size n) w3 w3.heap.size L l∧VsAt (Rp w3 w3.heap.size n) w3 w3.heap.size L' l'∧BsAt w3 w3.heap.size Bs bl∧BsAt w3 w3.heap.size Bs' bl'∧PsAt w3 w3.heap.size Ps ps∧PsAt w3 w3.heap.size Ps' ps' from fun w3 hb3 hz3=>
  ⟨hl.imp (fun p9 hp9=>hb3.cell hp9) hz3 (fun y9 v9 h9=>h9.below hb3 hz3),hl'.imp (fun p9 hp9=>hb3.cell hp9) hz3 (fun y9 v9 h9=>h9.below hb3 hz3),hb.keep (fun p9 hp9=>hb3.cell hp9) hz3,hb'.keep (fun p9 hp9=>hb3.cell hp9) hz3,hp.keep (fun p9 hp9=>hb3.cell hp9) hz3,hp'.keep (fun p9 hp9=>hb3.cell hp9) hz3⟩)
 clear hl hl' hb hb' hp hp'
 have X10:=Lib.hid x10
 have Y10:=Lib.hid y10
 have X11:=Lib.hid x11
 have Y11:=Lib.hid y11
 clear x0 x1 x2 x3 x4 x5 x6 x7 x8 x9 x10 x11 y0 y1 y2 y3 y4 y5 y6 y7 y8 y9 y10 y11
 refine(eqfunc_any n HIH.out l l' L L' W (HLL.out W hB (by omega)).1 (HLL.out W hB (by omega)).2.1).mono ?_
 rintro e3 w3 ⟨b1,rfl,hb1,hB3⟩
 have hvx:=hvx.below hB3 hvx.lt
 have hvy:=hvy.below hB3 hvy.lt
 have hB:=hB.trans (hB3.mono (by omega))
 have hz3:=hB3.size
 have u10:=hvx.cell X10.out
 have v10:=hvy.cell Y10.out
 have u11:=hvx.cell X11.out
 have v11:=hvy.cell Y11.out
 clear hB3
 cases b1 with
 |false=>
  have HN:Hid (¬P):=Lib.hid fun h=>absurd (hb1.2 (congrArg Vl.l (HP.out.2 h))) (by decide)
  clear hb1
  go_wp2_with fail
  go_ret
  exact⟨false,rfl,⟨(fun h=>by cases h),fun h=>absurd h HN.out⟩,hB⟩
 |true=>
  have E1:Hid (l=l'):=Lib.hid (hb1.1 rfl)
  clear hb1
  have a9:∀f:Field,([f]:List Field)[0]? =some f:=fun _=>rfl
  have a90:∀f g:Field,([f,g]:List Field)[0]? =some f:=fun _ _=>rfl
  go_wp2_with fail
  refine(eqblk_any bl bl' Bs Bs' w3 (HLL.out w3 hB (by omega)).2.2.1 (HLL.out w3 hB (by omega)).2.2.2.1).mono ?_
  rintro e4 w4 ⟨b2,rfl,hb2,hB4⟩
  have hvx:=hvx.below hB4 hvx.lt
  have hvy:=hvy.below hB4 hvy.lt
  have hB:=hB.trans (hB4.mono (by omega))
  have hz4:=hB4.size
  have u11:=hvx.cell X11.out
  have v11:=hvy.cell Y11.out
  clear hB4
  cases b2 with
  |false=>
   have HN:Hid (¬P):=Lib.hid fun h=>absurd (hb2.2 (congrArg Vl.bl (HP.out.2 h))) (by decide)
   clear hb2
   go_wp2_with fail
   go_ret
   exact⟨false,rfl,⟨(fun h=>by cases h),fun h=>absurd h HN.out⟩,hB⟩
  |true=>
   have E2:Hid (bl=bl'):=Lib.hid (hb2.1 rfl)
   clear hb2
   go_wp2_with fail
   refine(eqstr_any ps ps' Ps Ps' w4 (HLL.out w4 hB (by omega)).2.2.2.2.1 (HLL.out w4 hB (by omega)).2.2.2.2.2).mono ?_
   rintro e5 w5 ⟨b3,rfl,hb3,hB5⟩
   have hB:=hB.trans (hB5.mono (by omega))
   have HE:Hid (b3=true↔P):=by
    have e1:=E1.out
    have e2:=E2.out
    constructor
    ·intro h
     have e3:=hb3.1 h
     subst e1 e2 e3
     exact HP.out.1 rfl
    ·intro h
     exact hb3.2 (congrArg Vl.ps (HP.out.2 h))
   clear hb3 hB5
   go_wp2_with fail
   go_ret
   exact⟨b3,rfl,HE.out,hB⟩
theorem same_any :∀(n:Nat) (x y:Vl) (v u:Value) (w:World),Rp w w.heap.size n x v→Rp w w.heap.size n y u→Calls Tryz.prog 26 #[v,u] w (Tells (x=y) w)
 |0,_,_,_,_,_,h,_=>h.elim
 |n+1,x,y,v,u,w,hx,hy=>same_step n (same_any n) x y v u w hx hy
end Go.Proofs.YtkhohjdakcchdaaGreatDoor
