/- Merged: Valp, Valn, Vala, Eqf, Eqi, Same, Pln, Pln1, Pln2, Pln4. -/
import Derived.Test.YtmhfioimgllgeaaGreatDoorR18
import Derived.Test.YtmhfioimgllgeaaGreatDoorR21
import Derived.Test.YtmhfioimgllgeaaGreatDoorR22
import Derived.Deep.RegionHeld3
import Derived.Test.YtmhfioimgllgeaaGreatDoorR01
import Derived.Test.YtmhfioimgllgeaaGreatDoorR17
namespace Go.Proofs.YtmhfioimgllgeaaGreatDoor
open Go Go.RowKit
theorem three (p:(Int×Int)×Int):∃x y e,p=((x,y),e):=⟨p.1.1,p.1.2,p.2,rfl⟩
theorem right_nought :RightP (0,0):=by unfold RightP;omega
theorem ofD_right {n x y er:Int} (h:ofD n=((x,y),er)):RightP (x,y):=by
 unfold ofD at h
 generalize hg:near (decide (n<0)) (ofN n) false=g at h
 split at h
 ·rename_i h0
  split at h
  ·subst h
   exact near_right (s:=decide (n<0)) (D:=ofN n) (by rw[hg];exact Prod.ext rfl h0)
  ·injection h with h _
   rw[←h];exact right_nought
 ·injection h with h _
  rw[←h];exact right_nought
end Go.Proofs.YtmhfioimgllgeaaGreatDoor
namespace Go.Proofs.YtmhfioimgllgeaaGreatDoor
open Go Go.RowKit Go.Shelf
theorem World.dec.setRow {w:World} {g:Nat} {M E M' E':Int} (h:World.dec w g M E):World.dec (w.setRow g #[.int .i64 M',.int .i64 E']) g M' E':=by unfold World.dec;exact setRow_heap w g _ _ 34 _ h
section
variable {o : Oper} {a : Act} {w : World} {K : Act → World → Prop} {Q : Exit → Act → World → Prop}
theorem cell_alloc' {w:World} {p:Addr} {v:Value} {o:Obj} (h:w.cell? p=some v):(w.alloc o).cell? p=some v:=(World.cell?_alloc_lt w o p (w.block_lt_of_cell? _ h)).trans h
end
end Go.Proofs.YtmhfioimgllgeaaGreatDoor
namespace Go.Proofs.YtmhfioimgllgeaaGreatDoor
open Go Go.RowKit
theorem plain_zero :plainV {}=true:=by decide
theorem plain_num {p:Int×Int} (h:RightP p):plainV (numV p)=true:=by
 have:rightB p.1 p.2=true:=rightB_P.2 h
 simp[plainV,bareV,numV,this]
 rfl
theorem plain_txt {s:ByteArray} (h:txtOk s=true):plainV (txtV s)=true:=by simp[plainV,bareV,txtV,h]
theorem plain_tr (b:Bool):plainV (trV b)=true:=by simp[plainV,bareV,trV];rfl
theorem plain_err {n:Int} (h1:1≤n) (h2:n≤9):plainV (errV n)=true:=by simp[plainV,bareV,errV,h1,h2];rfl
/-- What a plain value is. -/
theorem plain_cases {x:Vl} (h:plainV x=true):x= {}∨(∃p,x=numV p∧RightP p)∨(∃s,x=txtV s∧txtOk s=true)∨(∃b,x=trV b)∨∃n,x=errV n∧1≤n∧n≤9:=by
 obtain⟨k,m,e,s,b,err,rows,cols,l,fn,bl,ps⟩:=x
 simp only[plainV,bareV,Bool.and_eq_true,Bool.or_eq_true,beq_iff_eq,Bool.not_eq_true',decide_eq_true_eq,List.isEmpty_iff]at h
 obtain⟨⟨⟨⟨⟨⟨⟨h1,h2⟩,h3⟩,h4⟩,h5⟩,h6⟩,h7⟩,h8⟩:=h
 have hs0:s.size=0→s=⟨#[]⟩:=fun h=>by
  obtain⟨⟨l⟩⟩:=s
  cases l with
  |nil=>rfl
  |cons a l=>exact absurd h (by simp[ByteArray.size])
 rcases h8 with (((h8|⟨h8,h9⟩)|⟨h8,h9⟩)|h8)|⟨h8,h9,h10⟩<;>subst h8
 ·left
  have a1:=h1.resolve_left (by decide)
  have a2:=hs0 ((h2.resolve_left (by decide)))
  have a3:=h3.resolve_left (by decide)
  have a4:=h4.resolve_left (by decide)
  have a5:=h5.resolve_left (by decide)
  have a6:=h6.resolve_left (by decide)
  have a7:=h7.resolve_left (by decide)
  simp[a1,a2,a3,a4,a5,a6,a7]
 ·right;left
  have a2:=hs0 ((h2.resolve_left (by decide)))
  have a3:=h3.resolve_left (by decide)
  have a4:=h4.resolve_left (by decide)
  have a5:=h5.resolve_left (by decide)
  have a6:=h6.resolve_left (by decide)
  have a7:=h7.resolve_left (by decide)
  exact⟨(m,e),by simp[numV,a2,a3,a4,a5,a6,a7],rightB_P.1 h9⟩
 ·right;right;left
  have a1:=h1.resolve_left (by decide)
  have a3:=h3.resolve_left (by decide)
  have a4:=h4.resolve_left (by decide)
  have a5:=h5.resolve_left (by decide)
  have a6:=h6.resolve_left (by decide)
  have a7:=h7.resolve_left (by decide)
  exact⟨s,by simp[txtV,a1,a3,a4,a5,a6,a7],h9⟩
 ·right;right;right;left
  have a1:=h1.resolve_left (by decide)
  have a2:=hs0 ((h2.resolve_left (by decide)))
  have a4:=h4.resolve_left (by decide)
  have a5:=h5.resolve_left (by decide)
  have a6:=h6.resolve_left (by decide)
  have a7:=h7.resolve_left (by decide)
  exact⟨b,by simp[trV,a1,a2,a4,a5,a6,a7]⟩
 ·right;right;right;right
  have a1:=h1.resolve_left (by decide)
  have a2:=hs0 ((h2.resolve_left (by decide)))
  have a3:=h3.resolve_left (by decide)
  have a5:=h5.resolve_left (by decide)
  have a6:=h6.resolve_left (by decide)
  have a7:=h7.resolve_left (by decide)
  exact⟨err,by simp[errV,a1,a2,a3,a5,a6,a7],h9,h10⟩
end Go.Proofs.YtmhfioimgllgeaaGreatDoor
namespace Go.Proofs.YtmhfioimgllgeaaGreatDoor
open Go Go.RowKit
/-- A truth is handed back: whether P; what lay there lies. -/
def Tells (P:Prop) (w:World) (e:Ending) (w':World):Prop:=∃b:Bool,e= .returned (.bool b)∧(b=true↔P)∧Below w.heap.size w w'
theorem add_at (g off j:Nat):(⟨g,off,none⟩:Addr).add j=⟨g,off+j,none⟩:=by
 unfold Addr.add
 by_cases h:j=0
 ·subst h;rfl
 ·rw[if_neg h]
theorem run_load_at {P:Program} (w:World) (g off:Nat) (ty:TypeId) (cs:Array Value) (d:TypeDesc) (hc:∀j u,cs[j]? =some u→w.cell? ⟨g,off+j,none⟩=some u)
 (hu:P.underlying ty=some d) (hd:(match d with| .struct _| .array _ _=>true|_=>false)=true) (hi:(P.info? ty).map (·.size)=some cs.size):
 (loadVar ty ⟨g,off,none⟩).run P w= .ok (.agg cs) w:=by
 have hl:(loadCells ⟨g,off,none⟩ cs.toList.length).run P w= .ok cs.toList.toArray w:=
  run_loadCells_list (P:=P) w ⟨g,off,none⟩ cs.toList (fun j v hv=>by
   rw[add_at]
   exact hc j v (by simpa using hv))
 cases hq:P.info? ty with
 |none=>simp[hq]at hi
 |some i=>
  have hs:i.size=cs.size:=by simpa [hq]using hi
  have hagg:(isAgg ty).run P w= .ok true w:=by
   unfold isAgg
   rw[Sem.run_bind,run_underlying hu w]
   cases d<;>simp_all
  simp only[Array.length_toList,Array.toArray_toList]at hl
  simp[loadVar,Sem.run_bind,hagg,sizeOf,typeInfo,hq,hs,hl]
section
variable {ops : Array Oper} {rest : List Oper} {o : Oper} {a : Act} {w : World} {K : Act → World → Prop} {Q : Exit → Act → World → Prop}
theorem op_load34at {x:Operand} {g off:Nat} {cs:Array Value} (ho:o.op= .load 39 x) (hx:a.eval x= .pointer (some ⟨g,off,none⟩)) (hs:cs.size=12)
 (hc:∀j u,cs[j]? =some u→w.cell? ⟨g,off+j,none⟩=some u) (h:K (a.put o.dst (.agg cs)) w):o.wp Tryz.prog a w K Q:=by
 unfold Oper.wp execOp
 simp only[ho,hx,Instr.loadAt,Instr.sureAddr,Sem.run_bind,Sem.run_pure,Result.andThen_ok,run_load_at w g off 39 cs _ hc Tryz.underlying39 rfl (by rw[hs];exact info34)]
 exact h
theorem wpList_load34at {x:Operand} {g off:Nat} {cs:Array Value} (hgd:o.guard=none) (ho:o.op= .load 39 x) (hx:a.eval x= .pointer (some ⟨g,off,none⟩)) (hs:cs.size=12)
 (hc:∀j u,cs[j]? =some u→w.cell? ⟨g,off+j,none⟩=some u) (h:wpList Tryz.prog ops Q rest (a.put o.dst (.agg cs)) w):wpList Tryz.prog ops Q (o :: rest) a w:=
 wpList_plain hgd fun _ hK=>op_load34at ho hx hs hc (hK _ _ h)
end
theorem enters26 :∀args w,(callFunc 21 args).run Tryz.prog w= .ok (.enter 21 args) w:=enters_of Tryz.func21 (by kernel_rfl) rfl
theorem Rp.size {w:World} {B n:Nat} {x:Vl} {cs:Array Value} (h:Rp w B n x (.agg cs)):cs.size=12:=by
 cases n with
 |zero=>exact h.elim
 |succ n=>
  obtain⟨L,Bs,Ps,h1,_⟩:=h
  injection h1 with h1
  rw[h1];rfl
theorem VsAt.shape {R:Vl→Value→Prop} {w:World} {B:Nat} {L:Value} {l:List Vl} (h:VsAt R w B L l):∃p c,L= .slice p l.length c∧l.length≤c∧l.length≤1000:=by
 obtain⟨p,c,h1,h2,_,h4,_⟩:=h
 exact⟨p,c,h1,h2,h4⟩
theorem Rp.one {w:World} {B n:Nat} {x:Vl} {cs:Array Value} (h:Rp w B n x (.agg cs)):OneC cs:=by
 cases n with
 |zero=>exact h.elim
 |succ n=>
  obtain⟨L,Bs,Ps,h1,_,h3,h4,h5,_⟩:=h
  injection h1 with h1
  obtain⟨p,c,rfl,_⟩:=h3
  obtain⟨p',c',rfl,_⟩:=h4
  obtain⟨p2,c2,rfl,_⟩:=h5
  rw[h1]
  exact vcs_one _ _ _ _ _ _ _ _ _ _
set_option maxRecDepth 100000 in
set_option maxHeartbeats 4000000 in
theorem eqfunc_any (n:Nat) (IH:∀(x y:Vl) (v u:Value) (w:World),Rp w w.heap.size n x v→Rp w w.heap.size n y u→Calls Tryz.prog 21 #[v,u] w (Tells (x=y) w))
 (l r:List Vl) (L R:Value) (w:World) (hl:VsAt (Rp w w.heap.size n) w w.heap.size L l) (hr:VsAt (Rp w w.heap.size n) w w.heap.size R r):
 Calls Tryz.prog 52 #[L,R,.func (.func 21) #[] #[]] w (Tells (l=r) w):=by
 obtain⟨p,c,rfl,l1,l2,l3,_,HL⟩:=hl
 obtain⟨p',c',rfl,r1,r2,r3,_,HR⟩:=hr
 have HIH:=Lib.hid IH
 have HLL:=Lib.hid HL
 have HRR:=Lib.hid HR
 clear IH HL HR
 unfold maxLen at l2 r2
 have e26:=enters26
 by_cases hlen:l.length=r.length
 ·have HLen:=Lib.hid hlen
  rw[hlen]at l1 l3⊢
  clear hlen
  have hne:((r.length:Int) != (r.length:Int))=false:=by simp
  go_enter Tryz.func52,Tryz.ntmps52
  go_wp2_with fail
  go_loopw [17] (fun i wr=>∃K:Nat,K≤r.length∧i= .int .i64 (K:Int)∧Below w.heap.size w wr∧Hid (∀i,i<K→l[i]? =r[i]?)) (fun i _=>r.length-(intOf i).toNat)
  case atStart=>exact⟨0,Nat.zero_le _,rfl,Below.refl _ _,Lib.hid fun i h=>by omega⟩
  case round=>
   obtain⟨K,hK,rfl,hB,HE⟩:=hrel
   by_cases hlt:K<r.length
   ·have hKI:(K:Int)<(r.length:Int):=by omega
    obtain⟨x,hx⟩:∃x,l[K]? =some x:=⟨_,List.getElem?_eq_getElem (by rw[HLen.out];exact hlt)⟩
    obtain⟨y,hy⟩:∃y,r[K]? =some y:=⟨_,List.getElem?_eq_getElem (by omega)⟩
    obtain⟨g,off,cs,rfl,hg,hs,hx1,hx2⟩:=HLL.out K x hx
    obtain⟨g',off',cs',rfl,hg',hs',hy1,hy2⟩:=HRR.out K y hy
    have HC:=Lib.hid (show ∀W,Below w.heap.size w W→∀j u,cs[j]? =some u→W.cell? ⟨g,off+K*12+j,none⟩=some u from fun W hW j u hj=>(hW.cell (p:=⟨g,_,none⟩) hg).trans (hx2 j u hj))
    have HC':=Lib.hid (show ∀W,Below w.heap.size w W→∀j u,cs'[j]? =some u→W.cell? ⟨g',off'+K*12+j,none⟩=some u from fun W hW j u hj=>(hW.cell (p:=⟨g',_,none⟩) hg').trans (hy2 j u hj))
    have HO:=Lib.hid hx1.one
    have HO':=Lib.hid hy1.one
    have HX:=Lib.hid (show ∀W,Below w.heap.size w W→w.heap.size≤W.heap.size→Rp W W.heap.size n x (.agg cs)from fun W hW hz=>hx1.below hW hz)
    have HY:=Lib.hid (show ∀W,Below w.heap.size w W→w.heap.size≤W.heap.size→Rp W W.heap.size n y (.agg cs')from fun W hW hz=>hy1.below hW hz)
    have hBz:=hB.size
    have Hx:=Lib.hid hx
    have Hy:=Lib.hid hy
    clear hx hy hx1 hy1 hx2 hy2 hs hs'
    go_wp2_with (first|refine wpList_load34at rfl rfl rfl HO.out.1 (HC.out _ hB) ?_|refine wpList_load34at rfl rfl rfl HO'.out.1 (HC'.out _ hB1) ?_|(refine wpList_alloc34 rfl rfl ?_)|(refine wpList_store34 rfl rfl rfl rfl (World.vb_new' _ _ _ rfl) (by rfl) HO.out ?_;intro w1 hn1 hg1 hz1;have hB1:=(hB.alloc hBz (.cells vz 39)).grown hg1 (by simp;omega) (fun k9 hk9=>by cases hk9;omega);rw[World.size_alloc]at hz1)|(refine wpList_store34 rfl rfl rfl rfl (World.vb_new' _ _ _ rfl) (by rfl) HO'.out ?_;intro w2 hn2 hg2 hz2;have hn1:=(hn1.alloc (.cells vz 39)).grown hg2 (by intro e9;injection e9 with e9;omega);have hB2:=(hB1.alloc (by omega) (.cells vz 39)).grown hg2 (by simp;omega) (fun k9 hk9=>by cases hk9;omega);rw[World.size_alloc]at hz2;(try rw[hz1]at hn2))|refine wpList_load34 rfl rfl rfl hn1 HO.out.1 ?_|refine wpList_load34 rfl rfl rfl hn2 HO'.out.1 ?_)
    refine(HIH.out x y _ _ _ (HX.out _ hB2 (by omega)) (HY.out _ hB2 (by omega))).mono ?_
    rintro e3 w3 ⟨b,rfl,hb,hB3⟩
    have hB4:=hB2.trans (hB3.mono (by omega))
    cases b with
    |true=>
     have HE':Hid (∀i,i<K+1→l[i]? =r[i]?):=Lib.hid fun i hi=>by
      by_cases e:i=K
      ·subst e;rw[Hx.out,Hy.out,hb.1 rfl]
      ·exact HE.out i (by omega)
     clear hb hB3 hn1 hn2 hg1 hg2
     go_wp2_with fail
     go_roundw
     case rel=>exact⟨K+1,by omega,by go_num,hB4,HE'⟩
     case measure=>simp[intOf];omega
    |false=>
     have hne2:¬l=r:=fun e=>by
      subst e
      have:=Hx.out.symm.trans Hy.out
      injection this with this
      exact absurd (hb.2 this) (by decide)
     have HN:=Lib.hid hne2
     clear hne2 hb hB3 hn1 hn2 hg1 hg2
     go_wp2_with fail
     go_ret
     exact⟨false,rfl,⟨(fun h=>by cases h),fun h=>absurd h HN.out⟩,hB4⟩
   ·have hKI:¬(K:Int)<(r.length:Int):=by omega
    have HN:Hid (l=r):=by
     show _=_
     apply List.ext_getElem?
     intro i
     by_cases hi:i<K
     ·exact HE.out i hi
     ·rw[List.getElem?_eq_none (by rw[HLen.out];omega),List.getElem?_eq_none (by omega)]
    go_wp2_with fail
    go_ret
    exact⟨true,rfl,⟨fun _=>HN.out,fun _=>rfl⟩,hB⟩
 ·have hne:((l.length:Int) != (r.length:Int))=true:=by simp;omega
  have HN:Hid (¬l=r):=fun e=>hlen (by rw[e])
  clear hlen
  go_enter Tryz.func52,Tryz.ntmps52
  go_wp2_with fail
  go_ret
  exact⟨false,rfl,⟨(fun h=>by cases h),fun h=>absurd h HN.out⟩,Below.refl _ _⟩
end Go.Proofs.YtmhfioimgllgeaaGreatDoor
namespace Go.Proofs.YtmhfioimgllgeaaGreatDoor
open Go Go.RowKit Go.Shelf
theorem ite_yes {c:Prop} [Decidable c] {p q:Prop} (hc:c) (h:p):if c then p else q:=by rw[if_pos hc];exact h
theorem info71 :(Tryz.prog.info? 98).map (·.size)=some 18:=by kernel_rfl
theorem quiet_load71 {o:Oper} {a:Act} {C:World→Prop} {K:Act→Prop} {x:Operand} {g off:Nat} (ho:o.op= .load 98 x) (hx:a.eval x= .pointer (some ⟨g,off,none⟩))
 (hc:∀w,C w→∀j u,insC[j]? =some u→w.cell? ⟨g,off+j,none⟩=some u) (h:K (a.put o.dst (.agg insC))):o.quiet Tryz.prog a C K:=by
 refine⟨.agg insC,fun w hw=> ?_,h⟩
 unfold Oper.quietAt execOp
 simp only[ho,hx,Instr.loadAt,Instr.sureAddr,Sem.run_bind,Sem.run_pure,Result.andThen_ok,run_load_at w g off 98 insC _ (hc w hw) Tryz.underlying98 rfl info71]
 exact⟨rfl,rfl⟩
theorem neq_ins (w:World):(binOp .neq 98 (.agg insC) (.agg insC)).run Tryz.prog w= .ok (.bool false) w:=by kernel_rfl
set_option maxRecDepth 100000 in
set_option maxHeartbeats 4000000 in
theorem eqins_tt (g off c g' off' c':Nat) (w:World) (_hc:1≤c) (_hc':1≤c') (_hm:c≤maxLen) (_hm':c'≤maxLen) (h:∀j u,insC[j]? =some u→w.cell? ⟨g,off+j,none⟩=some u) (h':∀j u,insC[j]? =some u→w.cell? ⟨g',off'+j,none⟩=some u):
 Calls Tryz.prog 54 #[.slice (some ⟨g,off,none⟩) 1 c,.slice (some ⟨g',off',none⟩) 1 c'] w fun e w'=>e= .returned (.bool true)∧∃k,w'=w.drewN k:=by
 unfold maxLen at _hm _hm'
 have H:=Lib.hid h
 have H':=Lib.hid h'
 clear h h'
 go_enter Tryz.func54,Tryz.ntmps54
 go_wp2_with fail
 go_loopw [13] (fun i wr=>∃K:Nat,K≤1∧i= .int .i64 (K:Int)∧∃k,wr=w.drewN k) (fun i _=>1-(intOf i).toNat)
 case atStart=>exact⟨0,by omega,rfl,0,rfl⟩
 case round=>
  obtain⟨K,hK,rfl,k0,rfl⟩:=hrel
  rcases(by omega:K=0∨K=1)with rfl|rfl
  ·go_wp2_with fail
   refine wp_region_quiet_lit (by kernel_rfl) (by kernel_rfl) ?_
   iterate 3 quiet_step (fail)
   refine wpQuiet_step (fun K hK=> ?_)
   refine ite_yes rfl ?_
   refine quiet_load71 rfl rfl (fun w9 h9 j u hj=>by obtain⟨n9,rfl⟩:=h9;exact H.out j u hj) (hK _ ?_)
   clear hK K
   iterate 3 quiet_step (fail)
   refine wpQuiet_step (fun K hK=> ?_)
   refine ite_yes rfl ?_
   refine quiet_load71 rfl rfl (fun w9 h9 j u hj=>by obtain⟨n9,rfl⟩:=h9;exact H'.out j u hj) (hK _ ?_)
   clear hK K
   have hn9:=neq_ins
   quiet_step (fail)
   clear hn9
   refine wpQuiet_nil ?_
   rintro _ ⟨nq,rfl⟩
   go_wp2_with fail
   go_roundw
   case rel=>exact⟨1,by omega,by go_num,by first|exact⟨_,rfl⟩|(simp only[World.drewN_drewN];exact⟨_,rfl⟩)⟩
   case measure=>simp[intOf]
  ·go_wp2_with fail
   go_ret
   exact⟨rfl,_,rfl⟩
theorem enters65 :∀args w,(callFunc 54 args).run Tryz.prog w= .ok (.enter 54 args) w:=enters_of Tryz.func54 (by kernel_rfl) rfl
theorem below_drewN' {w:World} (k:Nat):Below w.heap.size w (w.drewN k):=below_drewN (Below.refl _ _) k
set_option maxRecDepth 100000 in
set_option maxHeartbeats 4000000 in
theorem eqins_any (b1 b2:Bool) (v1 v2:Value) (w:World) (h1:InAt w w.heap.size b1 v1) (h2:InAt w w.heap.size b2 v2):Calls Tryz.prog 54 #[v1,v2] w (Tells (b1=b2) w):=by
 unfold InAt at h1 h2
 cases b1 with
 |true=>
  rw[if_pos rfl]at h1
  obtain⟨g,off,c,rfl,hc1,hc2,_,hc⟩:=h1
  cases b2 with
  |true=>
   rw[if_pos rfl]at h2
   obtain⟨g',off',c',rfl,hc1',hc2',_,hc'⟩:=h2
   refine(eqins_tt g off c g' off' c' w hc1 hc1' hc2 hc2' hc hc').mono ?_
   rintro e w' ⟨rfl,k,rfl⟩
   exact⟨true,rfl,⟨fun _=>rfl,fun _=>rfl⟩,below_drewN' k⟩
  |false=>
   rw[if_neg (by decide)]at h2
   subst h2
   clear hc
   go_enter Tryz.func54,Tryz.ntmps54
   go_wp2_with fail
   go_ret
   exact⟨false,rfl,⟨(fun h=>by cases h),(fun h=>by cases h)⟩,Below.refl _ _⟩
 |false=>
  rw[if_neg (by decide)]at h1
  subst h1
  cases b2 with
  |true=>
   rw[if_pos rfl]at h2
   obtain⟨g',off',c',rfl,hc1',hc2',_,hc'⟩:=h2
   clear hc'
   go_enter Tryz.func54,Tryz.ntmps54
   go_wp2_with fail
   go_ret
   exact⟨false,rfl,⟨(fun h=>by cases h),(fun h=>by cases h)⟩,Below.refl _ _⟩
  |false=>
   rw[if_neg (by decide)]at h2
   subst h2
   go_enter Tryz.func54,Tryz.ntmps54
   go_wp2_with fail
   go_loop [13] (fun i=>i= .int .i64 0) (fun _=>0)
   case atStart=>rfl
   case round=>
    obtain rfl:=hrel
    go_wp2_with fail
    go_ret
    exact⟨true,rfl,by simp,Below.refl _ _⟩
set_option maxRecDepth 100000 in
set_option maxHeartbeats 4000000 in
theorem eqblk_any (l r:List Bool) (L R:Value) (w:World) (hl:BsAt w w.heap.size L l) (hr:BsAt w w.heap.size R r):
 Calls Tryz.prog 53 #[L,R,.func (.func 54) #[] #[]] w (Tells (l=r) w):=by
 obtain⟨p,c,rfl,l1,l2,l3,HL⟩:=hl
 obtain⟨p',c',rfl,r1,r2,r3,HR⟩:=hr
 have HLL:=Lib.hid HL
 have HRR:=Lib.hid HR
 clear HL HR
 unfold maxLen at l2 r2
 have e65:=enters65
 by_cases hlen:l.length=r.length
 ·have HLen:=Lib.hid hlen
  rw[hlen]at l1 l3⊢
  clear hlen
  have hne:((r.length:Int) != (r.length:Int))=false:=by simp
  go_enter Tryz.func53,Tryz.ntmps53
  go_wp2_with fail
  go_loopw [17] (fun i wr=>∃K:Nat,K≤r.length∧i= .int .i64 (K:Int)∧Below w.heap.size w wr∧Hid (∀i,i<K→l[i]? =r[i]?)) (fun i _=>r.length-(intOf i).toNat)
  case atStart=>exact⟨0,Nat.zero_le _,rfl,Below.refl _ _,Lib.hid fun i h=>by omega⟩
  case round=>
   obtain⟨K,hK,rfl,hB,HE⟩:=hrel
   by_cases hlt:K<r.length
   ·have hKI:(K:Int)<(r.length:Int):=by omega
    obtain⟨x,hx⟩:∃x,l[K]? =some x:=⟨_,List.getElem?_eq_getElem (by rw[HLen.out];exact hlt)⟩
    obtain⟨y,hy⟩:∃y,r[K]? =some y:=⟨_,List.getElem?_eq_getElem (by omega)⟩
    obtain⟨g,off,u,rfl,hg,hx1,hx2⟩:=HLL.out K x hx
    obtain⟨g',off',v,rfl,hg',hy1,hy2⟩:=HRR.out K y hy
    have hBz:=hB.size
    have c0:=(hB.cell (p:=⟨g,off+K,none⟩) hg).trans hx2
    have c1:=(hB.cell (p:=⟨g',off'+K,none⟩) hg').trans hy2
    have HX:=Lib.hid (hx1.keep (fun p9 hp9=>hB.cell hp9) hBz)
    have HY:=Lib.hid (hy1.keep (fun p9 hp9=>hB.cell hp9) hBz)
    have Hx:=Lib.hid hx
    have Hy:=Lib.hid hy
    clear hx hy hx1 hy1 hx2 hy2
    go_wp2_with fail
    refine(eqins_any x y u v _ HX.out HY.out).mono ?_
    rintro e3 w3 ⟨b,rfl,hb,hB3⟩
    have hB4:=hB.trans (hB3.mono hBz)
    cases b with
    |true=>
     have HE':Hid (∀i,i<K+1→l[i]? =r[i]?):=Lib.hid fun i hi=>by
      by_cases e:i=K
      ·subst e;rw[Hx.out,Hy.out,hb.1 rfl]
      ·exact HE.out i (by omega)
     clear hb hB3 c0 c1
     go_wp2_with fail
     go_roundw
     case rel=>exact⟨K+1,by omega,by go_num,hB4,HE'⟩
     case measure=>simp[intOf];omega
    |false=>
     have hne2:¬l=r:=fun e=>by
      subst e
      have:=Hx.out.symm.trans Hy.out
      injection this with this
      exact absurd (hb.2 this) (by decide)
     have HN:=Lib.hid hne2
     clear hne2 hb hB3 c0 c1
     go_wp2_with fail
     go_ret
     exact⟨false,rfl,⟨(fun h=>by cases h),fun h=>absurd h HN.out⟩,hB4⟩
   ·have hKI:¬(K:Int)<(r.length:Int):=by omega
    have HN:Hid (l=r):=by
     show _=_
     apply List.ext_getElem?
     intro i
     by_cases hi:i<K
     ·exact HE.out i hi
     ·rw[List.getElem?_eq_none (by rw[HLen.out];omega),List.getElem?_eq_none (by omega)]
    go_wp2_with fail
    go_ret
    exact⟨true,rfl,⟨fun _=>HN.out,fun _=>rfl⟩,hB⟩
 ·have hne:((l.length:Int) != (r.length:Int))=true:=by simp;omega
  have HN:Hid (¬l=r):=fun e=>hlen (by rw[e])
  clear hlen
  go_enter Tryz.func53,Tryz.ntmps53
  go_wp2_with fail
  go_ret
  exact⟨false,rfl,⟨(fun h=>by cases h),fun h=>absurd h HN.out⟩,Below.refl _ _⟩
set_option maxRecDepth 100000 in
set_option maxHeartbeats 4000000 in
theorem eqstr_any (l r:List ByteArray) (L R:Value) (w:World) (hl:PsAt w w.heap.size L l) (hr:PsAt w w.heap.size R r):
 Calls Tryz.prog 55 #[L,R] w (Tells (l=r) w):=by
 obtain⟨p,c,rfl,l1,l2,l3,HL⟩:=hl
 obtain⟨p',c',rfl,r1,r2,r3,HR⟩:=hr
 unfold maxLen at l2 r2
 by_cases hlen:l.length=r.length
 ·by_cases h0:l.length=0
  ·have e1:l= []:=List.length_eq_zero_iff.1 h0
   have e2:r= []:=List.length_eq_zero_iff.1 (by omega)
   subst e1 e2
   refine(Tryz.slices_Equal_string_empty p p' c 0 c' w (by omega)).mono ?_
   rintro e w' ⟨rfl,rfl⟩
   exact⟨true,rfl,⟨fun _=>rfl,fun _=>rfl⟩,Below.refl _ _⟩
  ·obtain⟨s0,hs0⟩:∃s,l[0]? =some s:=⟨_,List.getElem?_eq_getElem (by omega)⟩
   obtain⟨s1,hs1⟩:∃s,r[0]? =some s:=⟨_,List.getElem?_eq_getElem (by omega)⟩
   obtain⟨_,g,off,rfl,_⟩:=HL 0 s0 hs0
   obtain⟨_,g',off',rfl,_⟩:=HR 0 s1 hs1
   have k1:∀j,j<l.length→w.cell? ⟨g,off+j,none⟩=some (.string (l.getD j ByteArray.empty)):=fun j hj=>by
    obtain⟨_,g2,off2,e,_,h⟩:=HL j l[j] (List.getElem?_eq_getElem hj)
    injection e with e
    injection e with e1 e2
    subst e1 e2
    rw[h,List.getD_eq_getElem?_getD,List.getElem?_eq_getElem hj];rfl
   have k2:∀j,j<r.length→w.cell? ⟨g',off'+j,none⟩=some (.string (r.getD j ByteArray.empty)):=fun j hj=>by
    obtain⟨_,g2,off2,e,_,h⟩:=HR j r[j] (List.getElem?_eq_getElem hj)
    injection e with e
    injection e with e1 e2
    subst e1 e2
    rw[h,List.getD_eq_getElem?_getD,List.getElem?_eq_getElem hj];rfl
   refine(Tryz.slices_Equal_string g off l.length c g' off' r.length c' l r w (Nat.le_refl _) (Nat.le_refl _) (by omega) (by omega) k1 k2).mono ?_
   rintro e w' ⟨rfl,q,rfl⟩
   rw[List.take_length,List.take_length]
   exact⟨_,rfl,by simp,below_drewN' q⟩
 ·have hne:((l.length:Int) != (r.length:Int))=true:=by simp;omega
  have HN:Hid (¬l=r):=fun e=>hlen (by rw[e])
  clear hlen HL HR
  go_enter Tryz.func55,Tryz.ntmps55
  go_wp2_with fail
  go_ret
  exact⟨false,rfl,⟨(fun h=>by cases h),fun h=>absurd h HN.out⟩,Below.refl _ _⟩
end Go.Proofs.YtmhfioimgllgeaaGreatDoor
namespace Go.Proofs.YtmhfioimgllgeaaGreatDoor
open Go Go.RowKit Go.Shelf
theorem tells_of {f:Nat} {args:Array Value} {w:World} {P Q:Prop} (h:P↔Q) (hc:Calls Tryz.prog f args w (Tells Q w)):Calls Tryz.prog f args w (Tells P w):=hc.mono fun _ _ ⟨b,h1,h2,h3⟩=>⟨b,h1,h2.trans h.symm,h3⟩
theorem str_ne {s t:ByteArray} (h:¬s=t):¬s.toList=t.toList:=fun e=>h (by
 rw[ByteArray.toList_eq,ByteArray.toList_eq]at e
 exact ByteArray.ext (Array.toList_inj.1 e))
set_option maxRecDepth 100000 in
set_option maxHeartbeats 8000000 in
theorem same_step (n:Nat) (ih:∀(x y:Vl) (v u:Value) (w:World),Rp w w.heap.size n x v→Rp w w.heap.size n y u→Calls Tryz.prog 21 #[v,u] w (Tells (x=y) w))
 (x y:Vl) (v u:Value) (w:World) (hx:Rp w w.heap.size (n+1) x v) (hy:Rp w w.heap.size (n+1) y u):Calls Tryz.prog 21 #[v,u] w (Tells (x=y) w):=by
 obtain⟨L,Bs,Ps,rfl,_,hl,hb,hp,_⟩:=hx
 obtain⟨L',Bs',Ps',rfl,_,hl',hb',hp',_⟩:=hy
 obtain⟨k,m,e,s,b,err,rows,cols,l,fn,bl,ps⟩:=x
 obtain⟨k',m',e',s',b',err',rows',cols',l',fn',bl',ps'⟩:=y
 obtain⟨P,hP⟩:∃P:Prop,((⟨k,m,e,s,b,err,rows,cols,l,fn,bl,ps⟩:Vl)=⟨k',m',e',s',b',err',rows',cols',l',fn',bl',ps'⟩)↔P:=⟨_,Iff.rfl⟩
 refine tells_of hP ?_
 have HP:=Lib.hid hP
 clear hP
 have HIH:=Lib.hid ih
 obtain⟨C,hC⟩:∃C,vcs ⟨k,m,e,s,b,err,rows,cols,l,fn,bl,ps⟩ L Bs Ps=C:=⟨_,rfl⟩
 obtain⟨C',hC'⟩:∃C,vcs ⟨k',m',e',s',b',err',rows',cols',l',fn',bl',ps'⟩ L' Bs' Ps'=C:=⟨_,rfl⟩
 rw[hC,hC']
 have HC:=Lib.hid hC
 have HC':=Lib.hid hC'
 have x0:C[0]? =some (.int .i64 k):=by rw[←hC];rfl
 have x1:C[1]? =some (.int .i64 m):=by rw[←hC];rfl
 have x2:C[2]? =some (.int .i64 e):=by rw[←hC];rfl
 have x3:C[3]? =some (.string s):=by rw[←hC];rfl
 have x4:C[4]? =some (.bool b):=by rw[←hC];rfl
 have x5:C[5]? =some (.int .i64 err):=by rw[←hC];rfl
 have x6:C[6]? =some (.int .i64 rows):=by rw[←hC];rfl
 have x7:C[7]? =some (.int .i64 cols):=by rw[←hC];rfl
 have x8:C[8]? =some (L):=by rw[←hC];rfl
 have x9:C[9]? =some (.int .i64 fn):=by rw[←hC];rfl
 have x10:C[10]? =some (Bs):=by rw[←hC];rfl
 have x11:C[11]? =some (Ps):=by rw[←hC];rfl
 have y0:C'[0]? =some (.int .i64 k'):=by rw[←hC'];rfl
 have y1:C'[1]? =some (.int .i64 m'):=by rw[←hC'];rfl
 have y2:C'[2]? =some (.int .i64 e'):=by rw[←hC'];rfl
 have y3:C'[3]? =some (.string s'):=by rw[←hC'];rfl
 have y4:C'[4]? =some (.bool b'):=by rw[←hC'];rfl
 have y5:C'[5]? =some (.int .i64 err'):=by rw[←hC'];rfl
 have y6:C'[6]? =some (.int .i64 rows'):=by rw[←hC'];rfl
 have y7:C'[7]? =some (.int .i64 cols'):=by rw[←hC'];rfl
 have y8:C'[8]? =some (L'):=by rw[←hC'];rfl
 have y9:C'[9]? =some (.int .i64 fn'):=by rw[←hC'];rfl
 have y10:C'[10]? =some (Bs'):=by rw[←hC'];rfl
 have y11:C'[11]? =some (Ps'):=by rw[←hC'];rfl
 clear hC hC' ih
 by_cases hne:¬k=k'
 ·have HN:Hid (¬P):=Lib.hid fun h=>hne (congrArg Vl.k (HP.out.2 h))
  have f0:(k != k')=true:=by simpa using hne
  clear hne
  go_enter Tryz.func21,Tryz.ntmps21
  go_wp2_with fail
  go_ret
  exact⟨false,rfl,⟨(fun h=>by cases h),fun h=>absurd h HN.out⟩,((Below.refl _ w).alloc (Nat.le_refl _) _).alloc (by simp) _⟩
 have hne:=Classical.not_not.1 hne
 subst hne
 by_cases hne:¬m=m'
 ·have HN:Hid (¬P):=Lib.hid fun h=>hne (congrArg Vl.m (HP.out.2 h))
  have f0:(m==m')=false:=by simpa using hne
  clear hne
  go_enter Tryz.func21,Tryz.ntmps21
  go_wp2_with fail
  go_ret
  exact⟨false,rfl,⟨(fun h=>by cases h),fun h=>absurd h HN.out⟩,((Below.refl _ w).alloc (Nat.le_refl _) _).alloc (by simp) _⟩
 have hne:=Classical.not_not.1 hne
 subst hne
 by_cases hne:¬e=e'
 ·have HN:Hid (¬P):=Lib.hid fun h=>hne (congrArg Vl.e (HP.out.2 h))
  have f0:(e==e')=false:=by simpa using hne
  clear hne
  go_enter Tryz.func21,Tryz.ntmps21
  go_wp2_with fail
  go_ret
  exact⟨false,rfl,⟨(fun h=>by cases h),fun h=>absurd h HN.out⟩,((Below.refl _ w).alloc (Nat.le_refl _) _).alloc (by simp) _⟩
 have hne:=Classical.not_not.1 hne
 subst hne
 by_cases hne:¬s=s'
 ·have HN:Hid (¬P):=Lib.hid fun h=>hne (congrArg Vl.s (HP.out.2 h))
  have f0:=str_ne hne
  clear hne
  go_enter Tryz.func21,Tryz.ntmps21
  go_wp2_with fail
  go_ret
  exact⟨false,rfl,⟨(fun h=>by cases h),fun h=>absurd h HN.out⟩,((Below.refl _ w).alloc (Nat.le_refl _) _).alloc (by simp) _⟩
 have hne:=Classical.not_not.1 hne
 subst hne
 by_cases hne:¬b=b'
 ·have HN:Hid (¬P):=Lib.hid fun h=>hne (congrArg Vl.b (HP.out.2 h))
  have f0:(b==b')=false:=by simpa using hne
  clear hne
  go_enter Tryz.func21,Tryz.ntmps21
  go_wp2_with fail
  go_ret
  exact⟨false,rfl,⟨(fun h=>by cases h),fun h=>absurd h HN.out⟩,((Below.refl _ w).alloc (Nat.le_refl _) _).alloc (by simp) _⟩
 have hne:=Classical.not_not.1 hne
 subst hne
 by_cases hne:¬err=err'
 ·have HN:Hid (¬P):=Lib.hid fun h=>hne (congrArg Vl.err (HP.out.2 h))
  have f0:(err != err')=true:=by simpa using hne
  clear hne
  go_enter Tryz.func21,Tryz.ntmps21
  go_wp2_with fail
  go_ret
  exact⟨false,rfl,⟨(fun h=>by cases h),fun h=>absurd h HN.out⟩,((Below.refl _ w).alloc (Nat.le_refl _) _).alloc (by simp) _⟩
 have hne:=Classical.not_not.1 hne
 subst hne
 by_cases hne:¬rows=rows'
 ·have HN:Hid (¬P):=Lib.hid fun h=>hne (congrArg Vl.rows (HP.out.2 h))
  have f0:(rows != rows')=true:=by simpa using hne
  clear hne
  go_enter Tryz.func21,Tryz.ntmps21
  go_wp2_with fail
  go_ret
  exact⟨false,rfl,⟨(fun h=>by cases h),fun h=>absurd h HN.out⟩,((Below.refl _ w).alloc (Nat.le_refl _) _).alloc (by simp) _⟩
 have hne:=Classical.not_not.1 hne
 subst hne
 by_cases hne:¬cols=cols'
 ·have HN:Hid (¬P):=Lib.hid fun h=>hne (congrArg Vl.cols (HP.out.2 h))
  have f0:(cols != cols')=true:=by simpa using hne
  clear hne
  go_enter Tryz.func21,Tryz.ntmps21
  go_wp2_with fail
  go_ret
  exact⟨false,rfl,⟨(fun h=>by cases h),fun h=>absurd h HN.out⟩,((Below.refl _ w).alloc (Nat.le_refl _) _).alloc (by simp) _⟩
 have hne:=Classical.not_not.1 hne
 subst hne
 by_cases hne:¬fn=fn'
 ·have HN:Hid (¬P):=Lib.hid fun h=>hne (congrArg Vl.fn (HP.out.2 h))
  have f0:(fn != fn')=true:=by simpa using hne
  clear hne
  go_enter Tryz.func21,Tryz.ntmps21
  go_wp2_with fail
  go_ret
  exact⟨false,rfl,⟨(fun h=>by cases h),fun h=>absurd h HN.out⟩,((Below.refl _ w).alloc (Nat.le_refl _) _).alloc (by simp) _⟩
 have hne:=Classical.not_not.1 hne
 subst hne
 go_enter Tryz.func21,Tryz.ntmps21
 go_wp2_with fail
 obtain⟨W,hW⟩:∃W,W=(w.alloc (.cells C 39)).alloc (.cells C' 39):=⟨_,rfl⟩
 rw[←hW]
 have hvx:World.vb W w.heap.size C:=by rw[hW];exact(World.vb_new w C).alloc _
 have hvy:World.vb W (w.heap.size+1) C':=by rw[hW];exact World.vb_new' _ _ _ (by simp)
 have hB:Below w.heap.size w W:=by rw[hW];exact((Below.refl _ w).alloc (Nat.le_refl _) _).alloc (by simp) _
 have hz:w.heap.size+1<W.heap.size:=by rw[hW];simp
 clear hW
 have HLL:=Lib.hid (show ∀w3,Below w.heap.size w w3→w.heap.size≤w3.heap.size→VsAt (Rp w3 w3.heap.size n) w3 w3.heap.size L l∧VsAt (Rp w3 w3.heap.size n) w3 w3.heap.size L' l'∧BsAt w3 w3.heap.size Bs bl∧BsAt w3 w3.heap.size Bs' bl'∧PsAt w3 w3.heap.size Ps ps∧PsAt w3 w3.heap.size Ps' ps' from fun w3 hb3 hz3=>
  ⟨hl.imp (fun p9 hp9=>hb3.cell hp9) hz3 (fun y9 v9 h9=>h9.below hb3 hz3),hl'.imp (fun p9 hp9=>hb3.cell hp9) hz3 (fun y9 v9 h9=>h9.below hb3 hz3),hb.keep (fun p9 hp9=>hb3.cell hp9) hz3,hb'.keep (fun p9 hp9=>hb3.cell hp9) hz3,hp.keep (fun p9 hp9=>hb3.cell hp9) hz3,hp'.keep (fun p9 hp9=>hb3.cell hp9) hz3⟩)
 clear hl hl' hb hb' hp hp'
 have X10:=Lib.hid x10
 have Y10:=Lib.hid y10
 have X11:=Lib.hid x11
 have Y11:=Lib.hid y11
 clear x0 x1 x2 x3 x4 x5 x6 x7 x8 x9 x10 x11 y0 y1 y2 y3 y4 y5 y6 y7 y8 y9 y10 y11
 refine(eqfunc_any n HIH.out l l' L L' W (HLL.out W hB (by omega)).1 (HLL.out W hB (by omega)).2.1).mono ?_
 rintro e3 w3 ⟨b1,rfl,hb1,hB3⟩
 have hvx:=hvx.below hB3 hvx.lt
 have hvy:=hvy.below hB3 hvy.lt
 have hB:=hB.trans (hB3.mono (by omega))
 have hz3:=hB3.size
 have u10:=hvx.cell X10.out
 have v10:=hvy.cell Y10.out
 have u11:=hvx.cell X11.out
 have v11:=hvy.cell Y11.out
 clear hB3
 cases b1 with
 |false=>
  have HN:Hid (¬P):=Lib.hid fun h=>absurd (hb1.2 (congrArg Vl.l (HP.out.2 h))) (by decide)
  clear hb1
  go_wp2_with fail
  go_ret
  exact⟨false,rfl,⟨(fun h=>by cases h),fun h=>absurd h HN.out⟩,hB⟩
 |true=>
  have E1:Hid (l=l'):=Lib.hid (hb1.1 rfl)
  clear hb1
  have a9:∀f:Field,([f]:List Field)[0]? =some f:=fun _=>rfl
  have a90:∀f g:Field,([f,g]:List Field)[0]? =some f:=fun _ _=>rfl
  go_wp2_with fail
  refine(eqblk_any bl bl' Bs Bs' w3 (HLL.out w3 hB (by omega)).2.2.1 (HLL.out w3 hB (by omega)).2.2.2.1).mono ?_
  rintro e4 w4 ⟨b2,rfl,hb2,hB4⟩
  have hvx:=hvx.below hB4 hvx.lt
  have hvy:=hvy.below hB4 hvy.lt
  have hB:=hB.trans (hB4.mono (by omega))
  have hz4:=hB4.size
  have u11:=hvx.cell X11.out
  have v11:=hvy.cell Y11.out
  clear hB4
  cases b2 with
  |false=>
   have HN:Hid (¬P):=Lib.hid fun h=>absurd (hb2.2 (congrArg Vl.bl (HP.out.2 h))) (by decide)
   clear hb2
   go_wp2_with fail
   go_ret
   exact⟨false,rfl,⟨(fun h=>by cases h),fun h=>absurd h HN.out⟩,hB⟩
  |true=>
   have E2:Hid (bl=bl'):=Lib.hid (hb2.1 rfl)
   clear hb2
   go_wp2_with fail
   refine(eqstr_any ps ps' Ps Ps' w4 (HLL.out w4 hB (by omega)).2.2.2.2.1 (HLL.out w4 hB (by omega)).2.2.2.2.2).mono ?_
   rintro e5 w5 ⟨b3,rfl,hb3,hB5⟩
   have hB:=hB.trans (hB5.mono (by omega))
   have HE:Hid (b3=true↔P):=by
    have e1:=E1.out
    have e2:=E2.out
    constructor
    ·intro h
     have e3:=hb3.1 h
     subst e1 e2 e3
     exact HP.out.1 rfl
    ·intro h
     exact hb3.2 (congrArg Vl.ps (HP.out.2 h))
   clear hb3 hB5
   go_wp2_with fail
   go_ret
   exact⟨b3,rfl,HE.out,hB⟩
theorem same_any :∀(n:Nat) (x y:Vl) (v u:Value) (w:World),Rp w w.heap.size n x v→Rp w w.heap.size n y u→Calls Tryz.prog 21 #[v,u] w (Tells (x=y) w)
 |0,_,_,_,_,_,h,_=>h.elim
 |n+1,x,y,v,u,w,hx,hy=>same_step n (same_any n) x y v u w hx hy
end Go.Proofs.YtmhfioimgllgeaaGreatDoor
namespace Go.Proofs.YtmhfioimgllgeaaGreatDoor
open Go Go.RowKit Go.Shelf
section
variable {ops : Array Oper} {rest : List Oper} {o : Oper} {a : Act} {w : World} {Q : Exit → Act → World → Prop}
theorem wpList_on {P:Program} (hw:Region.wanted o (yielded ops a.tmps)=true) (h:∀K:Act→World→Prop,(∀a w,wpList P ops Q rest a w→K a w)→o.wp P a w K Q):wpList P ops Q (o :: rest) a w:=
 wpList_step fun K hK=>by rw[if_pos hw];exact h K hK
/-- A load of a value, guarded or not. -/
theorem wpList_load34g {x:Operand} {g:Nat} {cs:Array Value} (hw:Region.wanted o (yielded ops a.tmps)=true) (ho:o.op= .load 39 x) (hx:a.eval x= .pointer (some ⟨g,0,none⟩)) (hn:World.vb w g cs) (hs:cs.size=12)
 (h:wpList Tryz.prog ops Q rest (a.put o.dst (.agg cs)) w):wpList Tryz.prog ops Q (o :: rest) a w:=
 wpList_on hw fun _ hK=>wp_load_row 39 x ho g hx 39 _ (0,0) _ hn Tryz.underlying39 rfl (by rw[hs];exact info34) (hK _ _ h)
end
theorem VsAt.nil {R:Vl→Value→Prop} {w:World} {B:Nat}:VsAt R w B nilS []:=⟨none,0,rfl,Nat.le_refl _,by unfold maxLen;omega,by simp,fun _=>rfl,fun i y h=>by simp at h⟩
theorem BsAt.nil {w:World} {B:Nat}:BsAt w B nilS []:=⟨none,0,rfl,Nat.le_refl _,by unfold maxLen;omega,by simp,fun i y h=>by simp at h⟩
theorem PsAt.nil {w:World} {B:Nat}:PsAt w B nilS []:=⟨none,0,rfl,Nat.le_refl _,by unfold maxLen;omega,by simp,fun i y h=>by simp at h⟩
/-- A value without elements and code needs no memory. -/
theorem rp_bare {w:World} {B n:Nat} {x:Vl} (ho:VOk x) (hl:x.l= []) (hb:x.bl= []) (hp:x.ps= []):Rp w B (n+1) x (.agg (pcs x)):=
 ⟨nilS,nilS,nilS,rfl,ho,by rw[hl];exact VsAt.nil,by rw[hb];exact BsAt.nil,by rw[hp];exact PsAt.nil,fun _=>⟨fun _=>rfl,fun _=>rfl⟩⟩
theorem i64_zero :i64R 0:=by unfold i64R;omega
theorem i64_one {k:Int} (h0:0≤k) (h1:k≤9):i64R k:=by unfold i64R;omega
theorem ok_zero :VOk {}:=⟨i64_zero,i64_zero,i64_zero,by decide,i64_zero,i64_zero,i64_zero,i64_zero⟩
theorem ok_num {M E:Int} (hm:i64R M) (he:i64R E):VOk (numV (M,E)):=⟨(show i64R 1 from i64_one (by decide) (by decide)),hm,he,(show(⟨#[]⟩:ByteArray).size≤1000 by decide),i64_zero,i64_zero,i64_zero,i64_zero⟩
theorem ok_txt {s:ByteArray} (h:s.size≤1000):VOk (txtV s):=⟨(show i64R 2 from i64_one (by decide) (by decide)),i64_zero,i64_zero,h,i64_zero,i64_zero,i64_zero,i64_zero⟩
theorem ok_tr (b:Bool):VOk (trV b):=⟨(show i64R 3 from i64_one (by decide) (by decide)),i64_zero,i64_zero,(show(⟨#[]⟩:ByteArray).size≤1000 by decide),i64_zero,i64_zero,i64_zero,i64_zero⟩
theorem ok_err {n:Int} (h:i64R n):VOk (errV n):=⟨(show i64R 4 from i64_one (by decide) (by decide)),i64_zero,i64_zero,(show(⟨#[]⟩:ByteArray).size≤1000 by decide),h,i64_zero,i64_zero,i64_zero⟩
theorem plain_k0 {x:Vl} (h:x.k=0):plainV x=true↔x= {}:=by
 constructor
 ·intro hp
  rcases plain_cases hp with e|⟨p,e,_⟩|⟨s,e,_⟩|⟨b,e⟩|⟨n,e,_⟩
  ·exact e
  all_goals (subst e;simp[numV,txtV,trV,errV]at h)
 ·rintro rfl;exact plain_zero
set_option maxRecDepth 100000 in
set_option maxHeartbeats 4000000 in
theorem vplain_0 (n:Nat) (x:Vl) (v:Value) (w:World) (hx:Rp w w.heap.size (n+1) x v) (h0:x.k=0):
 Calls Tryz.prog 50 #[v] w (Tells (plainV x=true) w):=by
 have HP:=Lib.hid (plain_k0 h0)
 have hxx:=hx
 obtain⟨L,Bs,Ps,rfl,_,_,_,_,_⟩:=hx
 obtain⟨C,hC⟩:∃C,vcs x L Bs Ps=C:=⟨_,rfl⟩
 have x0:C[0]? =some (.int .i64 0):=by rw[←hC,←h0];rfl
 rw[hC]at hxx⊢
 have hO:=hxx.one
 have HXX:=Lib.hid (show ∀W,Below w.heap.size w W→w.heap.size≤W.heap.size→Rp W W.heap.size (n+1) x (.agg C)from fun W hW hz=>hxx.below hW hz)
 have HO:=Lib.hid hO
 clear hC h0 hxx hO
 go_enter Tryz.func50,Tryz.ntmps50
 go_wp2_with (first|refine wpList_alloc34 rfl rfl ?_|refine wpList_load34g rfl rfl rfl ((World.vb_new w C).alloc _) HO.out.1 ?_|refine wpList_load34g rfl rfl rfl (World.vb_new' (w.alloc (.cells C 39)) vz _ (by simp)) (by rfl) ?_)
 obtain⟨W,hW⟩:∃W,W=(w.alloc (.cells C 39)).alloc (.cells vz 39):=⟨_,rfl⟩
 rw[←hW]
 have hB:Below w.heap.size w W:=by rw[hW];exact((Below.refl _ w).alloc (Nat.le_refl _) _).alloc (by simp) _
 clear hW
 refine(same_any (n+1) x {} _ _ W (HXX.out W hB hB.size) (rp_bare ok_zero rfl rfl rfl)).mono ?_
 rintro e3 w3 ⟨b1,rfl,hb1,hB3⟩
 have hB:=hB.trans (hB3.mono hB.size)
 have H1:=Lib.hid hb1
 clear hb1
 go_wp2_with fail
 go_ret
 exact⟨b1,rfl,H1.out.trans HP.out.symm,hB⟩
theorem plain_k3 {x:Vl} (h:x.k=3):plainV x=true↔x=trV x.b:=by
 constructor
 ·intro hp
  rcases plain_cases hp with e|⟨p,e,_⟩|⟨s,e,_⟩|⟨b,e⟩|⟨n,e,_⟩
  ·subst e;simp at h
  ·subst e;simp[numV]at h
  ·subst e;simp[txtV]at h
  ·rw[e];rfl
  ·subst e;simp[errV]at h
 ·intro e;rw[e];exact plain_tr _
set_option maxRecDepth 100000 in
set_option maxHeartbeats 4000000 in
theorem vplain_3 (n:Nat) (x:Vl) (v:Value) (w:World) (hx:Rp w w.heap.size (n+1) x v) (h0:x.k=3):
 Calls Tryz.prog 50 #[v] w (Tells (plainV x=true) w):=by
 have HP:=Lib.hid (plain_k3 h0)
 have hxx:=hx
 obtain⟨L,Bs,Ps,rfl,_,_,_,_,_⟩:=hx
 obtain⟨C,hC⟩:∃C,vcs x L Bs Ps=C:=⟨_,rfl⟩
 have x0:C[0]? =some (.int .i64 3):=by rw[←hC,←h0];rfl
 have x4:C[4]? =some (.bool x.b):=by rw[←hC];rfl
 rw[hC]at hxx⊢
 have hO:=hxx.one
 have HXX:=Lib.hid (show ∀W,Below w.heap.size w W→w.heap.size≤W.heap.size→Rp W W.heap.size (n+1) x (.agg C)from fun W hW hz=>hxx.below hW hz)
 have HO:=Lib.hid hO
 clear hC h0 hxx hO
 go_enter Tryz.func50,Tryz.ntmps50
 go_wp2_with (refine wpList_alloc34 rfl rfl ?_)
 obtain⟨W,hW⟩:∃W,W=(w.alloc (.cells C 39)).alloc (.cells vz 39):=⟨_,rfl⟩
 rw[←hW]
 have hvx:World.vb W w.heap.size C:=by rw[hW];exact(World.vb_new w C).alloc _
 have hvy:World.vb W (w.heap.size+1) vz:=by rw[hW];exact World.vb_new' _ _ _ (by simp)
 have hB:Below w.heap.size w W:=by rw[hW];exact((Below.refl _ w).alloc (Nat.le_refl _) _).alloc (by simp) _
 clear hW
 refine(truth_any x.b W).mono ?_
 rintro e2 w2 ⟨rfl,hB2⟩
 have hB:=hB.trans (hB2.mono hB.size)
 have hvx:=hvx.below hB2 hvx.lt
 have hvy:=hvy.below hB2 hvy.lt
 clear hB2
 go_wp2_with (first|(refine wpList_store34 rfl rfl rfl rfl hvy (by rfl) (pcs_one _) ?_;intro w4 hn4 hg4 hz4;have hvx:=hvx.grown hg4 (by intro e9;injection e9 with e9;omega);have hB:=hB.grown hg4 hB.size (fun k9 hk9=>by cases hk9;omega))|refine wpList_load34g rfl rfl rfl hvx HO.out.1 ?_|refine wpList_load34g rfl rfl rfl hn4 (by rfl) ?_)
 refine(same_any (n+1) x (trV x.b) _ _ w4 (HXX.out w4 hB hB.size) (rp_bare (ok_tr _) rfl rfl rfl)).mono ?_
 rintro e3 w3 ⟨b1,rfl,hb1,hB3⟩
 have hB:=hB.trans (hB3.mono hB.size)
 have H1:=Lib.hid hb1
 clear hb1
 go_wp2_with fail
 go_ret
 exact⟨b1,rfl,H1.out.trans HP.out.symm,hB⟩
end Go.Proofs.YtmhfioimgllgeaaGreatDoor
namespace Go.Proofs.YtmhfioimgllgeaaGreatDoor
open Go Go.RowKit Go.Shelf
theorem store_vb {W:World} {g:Nat} {cs cs':Array Value} (h:World.vb W g cs) (hs:cs.size=12) (h1:OneC cs'):(storeCells ⟨g,0,none⟩ cs'.toList).run Tryz.prog W= .ok () (W.setRow g cs'):=by
 have:=run_storeCells_from (P:=Tryz.prog) g 39 cs'.toList 0 cs W h (by rw[Nat.zero_add,Array.length_toList,h1.1,hs]) (fun v hv=>by
  have:=Array.all_eq_true_iff_forall_mem.1 h1.2 v (by simpa using hv)
  exact this)
 simpa using this
theorem plain_k1 {x:Vl} (h:x.k=1):plainV x=true↔(rightB x.m x.e=true∧x=numV (x.m,x.e)):=by
 constructor
 ·intro hp
  rcases plain_cases hp with e|⟨p,e,hr⟩|⟨s,e,_⟩|⟨b,e⟩|⟨n,e,_⟩
  ·subst e;simp at h
  ·rw[e];exact⟨rightB_P.2 hr,rfl⟩
  ·subst e;simp[txtV]at h
  ·subst e;simp[trV]at h
  ·subst e;simp[errV]at h
 ·rintro⟨hr,e⟩;rw[e];exact plain_num (rightB_P.1 hr)
set_option maxRecDepth 100000 in
set_option maxHeartbeats 4000000 in
theorem vplain_1 (n:Nat) (x:Vl) (v:Value) (w:World) (hx:Rp w w.heap.size (n+1) x v) (h0:x.k=1):
 Calls Tryz.prog 50 #[v] w (Tells (plainV x=true) w):=by
 have HP:=Lib.hid (plain_k1 h0)
 have hxx:=hx
 obtain⟨L,Bs,Ps,rfl,hok,_,_,_,_⟩:=hx
 obtain⟨C,hC⟩:∃C,vcs x L Bs Ps=C:=⟨_,rfl⟩
 have x0:C[0]? =some (.int .i64 1):=by rw[←hC,←h0];rfl
 have x1:C[1]? =some (.int .i64 x.m):=by rw[←hC];rfl
 have x2:C[2]? =some (.int .i64 x.e):=by rw[←hC];rfl
 rw[hC]at hxx⊢
 have hO:=hxx.one
 have HXX:=Lib.hid (show ∀W,Below w.heap.size w W→w.heap.size≤W.heap.size→Rp W W.heap.size (n+1) x (.agg C)from fun W hW hz=>hxx.below hW hz)
 have HO:=Lib.hid hO
 have CR:=Lib.hid (show ∀W,Calls Tryz.prog 58 #[.agg #[.int .i64 x.m,.int .i64 x.e]] W fun e w'=>e= .returned (.bool (rightB x.m x.e))∧Below W.heap.size W w' from fun W=>right_any x.m x.e W hok.m.1 hok.m.2)
 have HM:=Lib.hid (And.intro hok.m hok.e)
 clear hC h0 hxx hO hok
 generalize rightB x.m x.e=rb at CR HP
 go_enter Tryz.func50,Tryz.ntmps50
 go_wp2_with (refine wpList_alloc34 rfl rfl ?_)
 obtain⟨W,hW⟩:∃W,W=(w.alloc (.cells C 39)).alloc (.cells vz 39):=⟨_,rfl⟩
 rw[←hW]
 have hvx:World.vb W w.heap.size C:=by rw[hW];exact(World.vb_new w C).alloc _
 have hvy:World.vb W (w.heap.size+1) vz:=by rw[hW];exact World.vb_new' _ _ _ (by simp)
 have hB:Below w.heap.size w W:=by rw[hW];exact((Below.refl _ w).alloc (Nat.le_refl _) _).alloc (by simp) _
 clear hW
 have hvx:=hvx.drew
 have hvy:=hvy.drew
 have hB:=hB.drew
 have c1:=hvx.cell x1
 have c2:=hvx.cell x2
 have hst:∀W,World.vb W (w.heap.size+1) vz→(storeCells ⟨w.heap.size+1,0,none⟩ (pcs (numV (x.m,x.e))).toList).run Tryz.prog W= .ok () (W.setRow (w.heap.size+1) (pcs (numV (x.m,x.e)))):=fun W h=>store_vb h rfl (pcs_one _)
 go_region_held3 (fun w'=>w'.cell? ⟨w.heap.size,1,none⟩=some (.int .i64 x.m)∧w'.cell? ⟨w.heap.size,2,none⟩=some (.int .i64 x.e))
  (first|exact⟨c1,c2⟩|exact⟨((hvx.grown (setRow_grownBy _ _ _) (by intro e9;injection e9 with e9;omega))).cell x1,((hvx.grown (setRow_grownBy _ _ _) (by intro e9;injection e9 with e9;omega))).cell x2⟩|fail)
  (first|(go_at_call 99;refine(number_any x.m x.e _).mono ?_;rintro e2 w2 ⟨rfl,hB2⟩;have hvx:=hvx.below hB2 hvx.lt;have hvy:=hvy.below hB2 hvy.lt;have hB:=hB.trans (hB2.mono hB.size);have c1:=hvx.cell x1;have c2:=hvx.cell x2)|(go_at_call 58;refine(CR.out _).mono ?_;rintro e2 w2 ⟨rfl,hB2⟩;have hvx:=hvx.below hB2 hvx.lt;have hvy:=hvy.below hB2 hvy.lt;have hB:=hB.trans (hB2.mono hB.size);have c1:=hvx.cell x1;have c2:=hvx.cell x2)|fail)
 all_goals
  clear hst
  obtain⟨W2,hW2⟩:∃W2,W2=w2.setRow (w.heap.size+1) (pcs (numV (x.m,x.e))):=⟨_,rfl⟩
  rw[←hW2]
  have hg4:w2.grownBy W2 (some (w.heap.size+1)):=by rw[hW2];exact setRow_grownBy _ _ _
  have hn4:World.vb W2 (w.heap.size+1) (pcs (numV (x.m,x.e))):=by rw[hW2];exact hvy.setRow
  have hvx:=hvx.grown hg4 (by intro e9;injection e9 with e9;omega)
  have hB:=hB.grown hg4 hB.size (fun k9 hk9=>by cases hk9;omega)
  clear hW2 hg4
  cases rb with
  |false=>
   go_wp2_with fail
   go_ret
   exact⟨false,rfl,⟨(fun h=>by cases h),fun h=>absurd (HP.out.1 h).1 (by decide)⟩,hB⟩
  |true=>
   go_wp2_with (first|refine wpList_load34g rfl rfl rfl hvx HO.out.1 ?_|refine wpList_load34g rfl rfl rfl hn4 (by rfl) ?_)
   refine(same_any (n+1) x (numV (x.m,x.e)) _ _ W2 (HXX.out W2 hB hB.size) (rp_bare (ok_num HM.out.1 HM.out.2) rfl rfl rfl)).mono ?_
   rintro e3 w3 ⟨b1,rfl,hb1,hB3⟩
   have hB:=hB.trans (hB3.mono hB.size)
   have H1:=Lib.hid hb1
   clear hb1
   go_wp2_with fail
   go_ret
   exact⟨b1,rfl,H1.out.trans ⟨fun e=>HP.out.2 ⟨by first|rfl|trivial,e⟩,fun h=>(HP.out.1 h).2⟩,hB⟩
end Go.Proofs.YtmhfioimgllgeaaGreatDoor
namespace Go.Proofs.YtmhfioimgllgeaaGreatDoor
open Go Go.RowKit Go.Shelf
theorem tabs_below {w W:World} (h:Lib.Utf8Tabs 2 3 w) (hb:Below w.heap.size w W):Lib.Utf8Tabs 2 3 W:=
 ⟨fun c hc=>(hb.cell (p:=⟨2,c,none⟩) (World.block_lt_of_cell? _ _ (h.1 c hc))).trans (h.1 c hc),fun i hi=>⟨(hb.cell (p:=⟨3,2*i,none⟩) (World.block_lt_of_cell? _ _ (h.2 i hi).1)).trans (h.2 i hi).1,(hb.cell (p:=⟨3,2*i+1,none⟩) (World.block_lt_of_cell? _ _ (h.2 i hi).2)).trans (h.2 i hi).2⟩⟩
theorem plain_k2 {x:Vl} (h:x.k=2):plainV x=true↔(txtOk x.s=true∧x=txtV x.s):=by
 constructor
 ·intro hp
  rcases plain_cases hp with e|⟨p,e,hr⟩|⟨s,e,hs⟩|⟨b,e⟩|⟨n,e,_⟩
  ·subst e;simp at h
  ·subst e;simp[numV]at h
  ·rw[e];exact⟨hs,rfl⟩
  ·subst e;simp[trV]at h
  ·subst e;simp[errV]at h
 ·rintro⟨hr,e⟩;rw[e];exact plain_txt hr
set_option maxRecDepth 100000 in
set_option maxHeartbeats 4000000 in
theorem vplain_2 (n:Nat) (x:Vl) (v:Value) (w:World) (hx:Rp w w.heap.size (n+1) x v) (h0:x.k=2) (hT:Lib.Utf8Tabs 2 3 w):
 Calls Tryz.prog 50 #[v] w (Tells (plainV x=true) w):=by
 have HP:=Lib.hid (plain_k2 h0)
 have hxx:=hx
 obtain⟨L,Bs,Ps,rfl,hok,_,_,_,_⟩:=hx
 obtain⟨C,hC⟩:∃C,vcs x L Bs Ps=C:=⟨_,rfl⟩
 have x0:C[0]? =some (.int .i64 2):=by rw[←hC,←h0];rfl
 have x3:C[3]? =some (.string x.s):=by rw[←hC];rfl
 rw[hC]at hxx⊢
 have hO:=hxx.one
 have HXX:=Lib.hid (show ∀W,Below w.heap.size w W→w.heap.size≤W.heap.size→Rp W W.heap.size (n+1) x (.agg C)from fun W hW hz=>hxx.below hW hz)
 have HO:=Lib.hid hO
 have CR:=Lib.hid (show ∀W,Below w.heap.size w W→Calls Tryz.prog 101 #[.string x.s] W (Gives (.bool (txtOk x.s)) W)from fun W hb=>vtext_any x.s W (by have:=hok.s;omega) (tabs_below hT hb))
 have HM:=Lib.hid hok.s
 clear hC h0 hxx hO hok hT
 generalize txtOk x.s=rb at CR HP
 go_enter Tryz.func50,Tryz.ntmps50
 go_wp2_with (refine wpList_alloc34 rfl rfl ?_)
 obtain⟨W,hW⟩:∃W,W=(w.alloc (.cells C 39)).alloc (.cells vz 39):=⟨_,rfl⟩
 rw[←hW]
 have hvx:World.vb W w.heap.size C:=by rw[hW];exact(World.vb_new w C).alloc _
 have hvy:World.vb W (w.heap.size+1) vz:=by rw[hW];exact World.vb_new' _ _ _ (by simp)
 have hB:Below w.heap.size w W:=by rw[hW];exact((Below.refl _ w).alloc (Nat.le_refl _) _).alloc (by simp) _
 clear hW
 have hvx:=hvx.drew
 have hvy:=hvy.drew
 have hB:=hB.drew
 have c3:=hvx.cell x3
 have hst:∀W,World.vb W (w.heap.size+1) vz→(storeCells ⟨w.heap.size+1,0,none⟩ (pcs (txtV x.s)).toList).run Tryz.prog W= .ok () (W.setRow (w.heap.size+1) (pcs (txtV x.s))):=fun W h=>store_vb h rfl (pcs_one _)
 go_region_held3 (fun w'=>w'.cell? ⟨w.heap.size,3,none⟩=some (.string x.s))
  (first|exact c3|exact(hvx.grown (setRow_grownBy _ _ _) (by intro e9;injection e9 with e9;omega)).cell x3|fail)
  (first|(go_at_call 100;refine(said_any x.s _).mono ?_;rintro e2 w2 ⟨rfl,hB2⟩;have hvx:=hvx.below hB2 hvx.lt;have hvy:=hvy.below hB2 hvy.lt;have hB:=hB.trans (hB2.mono hB.size);have c3:=hvx.cell x3)|(go_at_call 101;refine(CR.out _ hB).mono ?_;rintro e2 w2 ⟨rfl,hB2⟩;have hvx:=hvx.below hB2 hvx.lt;have hvy:=hvy.below hB2 hvy.lt;have hB:=hB.trans (hB2.mono hB.size);have c3:=hvx.cell x3)|fail)
 all_goals
  clear hst
  obtain⟨W2,hW2⟩:∃W2,W2=w2.setRow (w.heap.size+1) (pcs (txtV x.s)):=⟨_,rfl⟩
  rw[←hW2]
  have hg4:w2.grownBy W2 (some (w.heap.size+1)):=by rw[hW2];exact setRow_grownBy _ _ _
  have hn4:World.vb W2 (w.heap.size+1) (pcs (txtV x.s)):=by rw[hW2];exact hvy.setRow
  have hvx:=hvx.grown hg4 (by intro e9;injection e9 with e9;omega)
  have hB:=hB.grown hg4 hB.size (fun k9 hk9=>by cases hk9;omega)
  clear hW2 hg4
  cases rb with
  |false=>
   go_wp2_with fail
   go_ret
   exact⟨false,rfl,⟨(fun h=>by cases h),fun h=>absurd (HP.out.1 h).1 (by decide)⟩,hB⟩
  |true=>
   go_wp2_with (first|refine wpList_load34g rfl rfl rfl hvx HO.out.1 ?_|refine wpList_load34g rfl rfl rfl hn4 (by rfl) ?_)
   refine(same_any (n+1) x (txtV x.s) _ _ W2 (HXX.out W2 hB hB.size) (rp_bare (ok_txt HM.out) rfl rfl rfl)).mono ?_
   rintro e3 w3 ⟨b1,rfl,hb1,hB3⟩
   have hB:=hB.trans (hB3.mono hB.size)
   have H1:=Lib.hid hb1
   clear hb1
   go_wp2_with fail
   go_ret
   exact⟨b1,rfl,H1.out.trans ⟨fun e=>HP.out.2 ⟨by first|rfl|trivial,e⟩,fun h=>(HP.out.1 h).2⟩,hB⟩
end Go.Proofs.YtmhfioimgllgeaaGreatDoor
namespace Go.Proofs.YtmhfioimgllgeaaGreatDoor
open Go Go.RowKit Go.Shelf
theorem plain_k4 {x:Vl} (h:x.k=4):plainV x=true↔((1≤x.err∧x.err≤9)∧x=errV x.err):=by
 constructor
 ·intro hp
  rcases plain_cases hp with e|⟨p,e,hr⟩|⟨s,e,hs⟩|⟨b,e⟩|⟨n,e,h1,h2⟩
  ·subst e;simp at h
  ·subst e;simp[numV]at h
  ·subst e;simp[txtV]at h
  ·subst e;simp[trV]at h
  ·rw[e];exact⟨⟨h1,h2⟩,rfl⟩
 ·rintro⟨⟨h1,h2⟩,e⟩;rw[e];exact plain_err h1 h2
set_option maxRecDepth 100000 in
set_option maxHeartbeats 4000000 in
theorem vplain_4 (n:Nat) (x:Vl) (v:Value) (w:World) (hx:Rp w w.heap.size (n+1) x v) (h0:x.k=4) (hr:1≤x.err∧x.err≤9):
 Calls Tryz.prog 50 #[v] w (Tells (plainV x=true) w):=by
 have HP:=Lib.hid (plain_k4 h0)
 have hxx:=hx
 obtain⟨L,Bs,Ps,rfl,hok,_,_,_,_⟩:=hx
 obtain⟨C,hC⟩:∃C,vcs x L Bs Ps=C:=⟨_,rfl⟩
 have x0:C[0]? =some (.int .i64 4):=by rw[←hC,←h0];rfl
 have x5:C[5]? =some (.int .i64 x.err):=by rw[←hC];rfl
 rw[hC]at hxx⊢
 have hO:=hxx.one
 have HXX:=Lib.hid (show ∀W,Below w.heap.size w W→w.heap.size≤W.heap.size→Rp W W.heap.size (n+1) x (.agg C)from fun W hW hz=>hxx.below hW hz)
 have HO:=Lib.hid hO
 have HM:=Lib.hid hok.err
 clear hC h0 hxx hO hok
 obtain⟨er,her⟩:∃er,x.err=er:=⟨_,rfl⟩
 rw[her]at x5 HP HM hr
 clear her
 obtain⟨g1,g2⟩:=hr
 go_enter Tryz.func50,Tryz.ntmps50
 go_wp2_with (refine wpList_alloc34 rfl rfl ?_)
 obtain⟨W,hW⟩:∃W,W=(w.alloc (.cells C 39)).alloc (.cells vz 39):=⟨_,rfl⟩
 rw[←hW]
 have hvx:World.vb W w.heap.size C:=by rw[hW];exact(World.vb_new w C).alloc _
 have hvy:World.vb W (w.heap.size+1) vz:=by rw[hW];exact World.vb_new' _ _ _ (by simp)
 have hB:Below w.heap.size w W:=by rw[hW];exact((Below.refl _ w).alloc (Nat.le_refl _) _).alloc (by simp) _
 clear hW
 have hvx:=hvx.drew
 have hvy:=hvy.drew
 have hB:=hB.drew
 have c5:=hvx.cell x5
 have hst:∀W,World.vb W (w.heap.size+1) vz→(storeCells ⟨w.heap.size+1,0,none⟩ (pcs (errV er)).toList).run Tryz.prog W= .ok () (W.setRow (w.heap.size+1) (pcs (errV er))):=fun W h=>store_vb h rfl (pcs_one _)
 go_region_held3 (fun w'=>w'.cell? ⟨w.heap.size,5,none⟩=some (.int .i64 er))
  (first|exact c5|exact(hvx.grown (setRow_grownBy _ _ _) (by intro e9;injection e9 with e9;omega)).cell x5|fail)
  (first|(go_at_call 103;refine(err_any er _).mono ?_;rintro e2 w2 ⟨rfl,hB2⟩;have hvx:=hvx.below hB2 hvx.lt;have hvy:=hvy.below hB2 hvy.lt;have hB:=hB.trans (hB2.mono hB.size);have c5:=hvx.cell x5)|fail)
 all_goals
  clear hst
  obtain⟨W2,hW2⟩:∃W2,W2=w2.setRow (w.heap.size+1) (pcs (errV er)):=⟨_,rfl⟩
  rw[←hW2]
  have hg4:w2.grownBy W2 (some (w.heap.size+1)):=by rw[hW2];exact setRow_grownBy _ _ _
  have hn4:World.vb W2 (w.heap.size+1) (pcs (errV er)):=by rw[hW2];exact hvy.setRow
  have hvx:=hvx.grown hg4 (by intro e9;injection e9 with e9;omega)
  have hB:=hB.grown hg4 hB.size (fun k9 hk9=>by cases hk9;omega)
  clear hW2 hg4
  go_wp2_with (first|refine wpList_load34g rfl rfl rfl hvx HO.out.1 ?_|refine wpList_load34g rfl rfl rfl hn4 (by rfl) ?_)
  refine(same_any (n+1) x (errV er) _ _ W2 (HXX.out W2 hB hB.size) (rp_bare (ok_err HM.out) rfl rfl rfl)).mono ?_
  rintro e3 w3 ⟨b1,rfl,hb1,hB3⟩
  have hB:=hB.trans (hB3.mono hB.size)
  have H1:=Lib.hid hb1
  clear hb1
  go_wp2_with fail
  go_ret
  exact⟨b1,rfl,H1.out.trans ⟨fun e=>HP.out.2 ⟨⟨by omega,by omega⟩,e⟩,fun h=>(HP.out.1 h).2⟩,hB⟩
/-- At any plain value. -/
theorem vplain_any (n:Nat) (x:Vl) (v:Value) (w:World) (hx:Rp w w.heap.size (n+1) x v) (hp:plainV x=true) (hT:Lib.Utf8Tabs 2 3 w):
 Calls Tryz.prog 50 #[v] w (Gives (.bool true) w):=by
 have h:Calls Tryz.prog 50 #[v] w (Tells (plainV x=true) w):=by
  rcases plain_cases hp with e|⟨p,e,_⟩|⟨s,e,_⟩|⟨b,e⟩|⟨m,e,h1,h2⟩
  ·exact vplain_0 n x v w hx (by rw[e])
  ·exact vplain_1 n x v w hx (by rw[e];rfl)
  ·exact vplain_2 n x v w hx (by rw[e];rfl) hT
  ·exact vplain_3 n x v w hx (by rw[e];rfl)
  ·exact vplain_4 n x v w hx (by rw[e];rfl) (by rw[e];exact⟨h1,h2⟩)
 refine h.mono ?_
 rintro e w' ⟨b,rfl,hb,hB⟩
 rw[hb.2 hp]
 exact⟨rfl,hB⟩
end Go.Proofs.YtmhfioimgllgeaaGreatDoor
