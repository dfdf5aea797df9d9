/- Merged: Pln, Pln1, Pln2, Pln4. -/
import Derived.Test.YtkhohjdakcchdaaGreatDoorBi
import Derived.Test.YtkhohjdakcchdaaGreatDoorBg
namespace Go.Proofs.YtkhohjdakcchdaaGreatDoor
open Go Go.RowKit Go.Shelf
section
variable {ops : Array Oper} {rest : List Oper} {o : Oper} {a : Act} {w : World} {Q : Exit → Act → World → Prop}
theorem wpList_on {P:Program} (hw:Region.wanted o (yielded ops a.tmps)=true) (h:∀K:Act→World→Prop,(∀a w,wpList P ops Q rest a w→K a w)→o.wp P a w K Q):wpList P ops Q (o :: rest) a w:=
 wpList_step fun K hK=>by rw[if_pos hw];exact h K hK
/-- A load of a value, guarded or not. -/
theorem wpList_load34g {x:Operand} {g:Nat} {cs:Array Value} (hw:Region.wanted o (yielded ops a.tmps)=true) (ho:o.op= .load 34 x) (hx:a.eval x= .pointer (some ⟨g,0,none⟩)) (hn:World.vb w g cs) (hs:cs.size=12)
 (h:wpList Tryz.prog ops Q rest (a.put o.dst (.agg cs)) w):wpList Tryz.prog ops Q (o :: rest) a w:=
 wpList_on hw fun _ hK=>wp_load_row 34 x ho g hx 34 _ (0,0) _ hn Tryz.underlying34 rfl (by rw[hs];exact info34) (hK _ _ h)
end
theorem VsAt.nil {R:Vl→Value→Prop} {w:World} {B:Nat}:VsAt R w B nilS []:=⟨none,0,rfl,Nat.le_refl _,by unfold maxLen;omega,by simp,fun _=>rfl,fun i y h=>by simp at h⟩
theorem BsAt.nil {w:World} {B:Nat}:BsAt w B nilS []:=⟨none,0,rfl,Nat.le_refl _,by unfold maxLen;omega,by simp,fun i y h=>by simp at h⟩
theorem PsAt.nil {w:World} {B:Nat}:PsAt w B nilS []:=⟨none,0,rfl,Nat.le_refl _,by unfold maxLen;omega,by simp,fun i y h=>by simp at h⟩
/-- A value without elements and code needs no memory. -/
theorem rp_bare {w:World} {B n:Nat} {x:Vl} (ho:VOk x) (hl:x.l= []) (hb:x.bl= []) (hp:x.ps= []):Rp w B (n+1) x (.agg (pcs x)):=
 ⟨nilS,nilS,nilS,rfl,ho,by rw[hl];exact VsAt.nil,by rw[hb];exact BsAt.nil,by rw[hp];exact PsAt.nil,fun _=>⟨fun _=>rfl,fun _=>rfl⟩⟩
theorem i64_zero :i64R 0:=by unfold i64R;omega
theorem i64_one {k:Int} (h0:0≤k) (h1:k≤9):i64R k:=by unfold i64R;omega
theorem ok_zero :VOk {}:=⟨i64_zero,i64_zero,i64_zero,by decide,i64_zero,i64_zero,i64_zero,i64_zero⟩
theorem ok_num {M E:Int} (hm:i64R M) (he:i64R E):VOk (numV (M,E)):=⟨(show i64R 1 from i64_one (by decide) (by decide)),hm,he,(show(⟨#[]⟩:ByteArray).size≤1000 by decide),i64_zero,i64_zero,i64_zero,i64_zero⟩
theorem ok_txt {s:ByteArray} (h:s.size≤1000):VOk (txtV s):=⟨(show i64R 2 from i64_one (by decide) (by decide)),i64_zero,i64_zero,h,i64_zero,i64_zero,i64_zero,i64_zero⟩
theorem ok_tr (b:Bool):VOk (trV b):=⟨(show i64R 3 from i64_one (by decide) (by decide)),i64_zero,i64_zero,(show(⟨#[]⟩:ByteArray).size≤1000 by decide),i64_zero,i64_zero,i64_zero,i64_zero⟩
theorem ok_err {n:Int} (h:i64R n):VOk (errV n):=⟨(show i64R 4 from i64_one (by decide) (by decide)),i64_zero,i64_zero,(show(⟨#[]⟩:ByteArray).size≤1000 by decide),h,i64_zero,i64_zero,i64_zero⟩
theorem plain_other {x:Vl} (h0:x.k≠0) (h1:x.k≠1) (h2:x.k≠2) (h3:x.k≠3) (h4:x.k≠4):plainV x=false:=by
 unfold plainV
 simp[h0,h1,h2,h3,h4]
set_option maxRecDepth 100000 in
set_option maxHeartbeats 4000000 in
theorem vplain_other (n:Nat) (x:Vl) (v:Value) (w:World) (hx:Rp w w.heap.size (n+1) x v) (h0:x.k≠0) (h1:x.k≠1) (h2:x.k≠2) (h3:x.k≠3) (h4:x.k≠4):
 Calls Tryz.prog 68 #[v] w (Tells (plainV x=true) w):=by
 have HP:=Lib.hid (plain_other h0 h1 h2 h3 h4)
 obtain⟨L,Bs,Ps,rfl,_,_,_,_,_⟩:=hx
 obtain⟨C,hC⟩:∃C,vcs x L Bs Ps=C:=⟨_,rfl⟩
 have x0:C[0]? =some (.int .i64 x.k):=by rw[←hC];rfl
 rw[hC]
 clear hC
 generalize x.k=k at x0 h0 h1 h2 h3 h4
 have f0:(k==0)=false:=by simpa using h0
 have f1:(k==1)=false:=by simpa using h1
 have f2:(k==2)=false:=by simpa using h2
 have f3:(k==3)=false:=by simpa using h3
 have f4:(k==4)=false:=by simpa using h4
 clear h0 h1 h2 h3 h4
 go_enter Tryz.func68,Tryz.ntmps68
 go_wp2_with (refine wpList_alloc34 rfl rfl ?_)
 go_ret
 exact⟨false,rfl,⟨(fun h=>by cases h),fun h=>by rw[HP.out]at h;cases h⟩,((Below.refl _ w).alloc (Nat.le_refl _) _).alloc (by simp) _⟩
theorem plain_k0 {x:Vl} (h:x.k=0):plainV x=true↔x= {}:=by
 constructor
 ·intro hp
  rcases plain_cases hp with e|⟨p,e,_⟩|⟨s,e,_⟩|⟨b,e⟩|⟨n,e,_⟩
  ·exact e
  all_goals (subst e;simp[numV,txtV,trV,errV]at h)
 ·rintro rfl;exact plain_zero
set_option maxRecDepth 100000 in
set_option maxHeartbeats 4000000 in
theorem vplain_0 (n:Nat) (x:Vl) (v:Value) (w:World) (hx:Rp w w.heap.size (n+1) x v) (h0:x.k=0):
 Calls Tryz.prog 68 #[v] w (Tells (plainV x=true) w):=by
 have HP:=Lib.hid (plain_k0 h0)
 have hxx:=hx
 obtain⟨L,Bs,Ps,rfl,_,_,_,_,_⟩:=hx
 obtain⟨C,hC⟩:∃C,vcs x L Bs Ps=C:=⟨_,rfl⟩
 have x0:C[0]? =some (.int .i64 0):=by rw[←hC,←h0];rfl
 rw[hC]at hxx⊢
 have hO:=hxx.one
 have HXX:=Lib.hid (show ∀W,Below w.heap.size w W→w.heap.size≤W.heap.size→Rp W W.heap.size (n+1) x (.agg C)from fun W hW hz=>hxx.below hW hz)
 have HO:=Lib.hid hO
 clear hC h0 hxx hO
 go_enter Tryz.func68,Tryz.ntmps68
 go_wp2_with (first|refine wpList_alloc34 rfl rfl ?_|refine wpList_load34g rfl rfl rfl ((World.vb_new w C).alloc _) HO.out.1 ?_|refine wpList_load34g rfl rfl rfl (World.vb_new' (w.alloc (.cells C 34)) vz _ (by simp)) (by rfl) ?_)
 obtain⟨W,hW⟩:∃W,W=(w.alloc (.cells C 34)).alloc (.cells vz 34):=⟨_,rfl⟩
 rw[←hW]
 have hB:Below w.heap.size w W:=by rw[hW];exact((Below.refl _ w).alloc (Nat.le_refl _) _).alloc (by simp) _
 clear hW
 refine(same_any (n+1) x {} _ _ W (HXX.out W hB hB.size) (rp_bare ok_zero rfl rfl rfl)).mono ?_
 rintro e3 w3 ⟨b1,rfl,hb1,hB3⟩
 have hB:=hB.trans (hB3.mono hB.size)
 have H1:=Lib.hid hb1
 clear hb1
 go_wp2_with fail
 go_ret
 exact⟨b1,rfl,H1.out.trans HP.out.symm,hB⟩
theorem plain_k3 {x:Vl} (h:x.k=3):plainV x=true↔x=trV x.b:=by
 constructor
 ·intro hp
  rcases plain_cases hp with e|⟨p,e,_⟩|⟨s,e,_⟩|⟨b,e⟩|⟨n,e,_⟩
  ·subst e;simp at h
  ·subst e;simp[numV]at h
  ·subst e;simp[txtV]at h
  ·rw[e];rfl
  ·subst e;simp[errV]at h
 ·intro e;rw[e];exact plain_tr _
set_option maxRecDepth 100000 in
set_option maxHeartbeats 4000000 in
theorem vplain_3 (n:Nat) (x:Vl) (v:Value) (w:World) (hx:Rp w w.heap.size (n+1) x v) (h0:x.k=3):
 Calls Tryz.prog 68 #[v] w (Tells (plainV x=true) w):=by
 have HP:=Lib.hid (plain_k3 h0)
 have hxx:=hx
 obtain⟨L,Bs,Ps,rfl,_,_,_,_,_⟩:=hx
 obtain⟨C,hC⟩:∃C,vcs x L Bs Ps=C:=⟨_,rfl⟩
 have x0:C[0]? =some (.int .i64 3):=by rw[←hC,←h0];rfl
 have x4:C[4]? =some (.bool x.b):=by rw[←hC];rfl
 rw[hC]at hxx⊢
 have hO:=hxx.one
 have HXX:=Lib.hid (show ∀W,Below w.heap.size w W→w.heap.size≤W.heap.size→Rp W W.heap.size (n+1) x (.agg C)from fun W hW hz=>hxx.below hW hz)
 have HO:=Lib.hid hO
 clear hC h0 hxx hO
 go_enter Tryz.func68,Tryz.ntmps68
 go_wp2_with (refine wpList_alloc34 rfl rfl ?_)
 obtain⟨W,hW⟩:∃W,W=(w.alloc (.cells C 34)).alloc (.cells vz 34):=⟨_,rfl⟩
 rw[←hW]
 have hvx:World.vb W w.heap.size C:=by rw[hW];exact(World.vb_new w C).alloc _
 have hvy:World.vb W (w.heap.size+1) vz:=by rw[hW];exact World.vb_new' _ _ _ (by simp)
 have hB:Below w.heap.size w W:=by rw[hW];exact((Below.refl _ w).alloc (Nat.le_refl _) _).alloc (by simp) _
 clear hW
 refine(truth_any x.b W).mono ?_
 rintro e2 w2 ⟨rfl,hB2⟩
 have hB:=hB.trans (hB2.mono hB.size)
 have hvx:=hvx.below hB2 hvx.lt
 have hvy:=hvy.below hB2 hvy.lt
 clear hB2
 go_wp2_with (first|(refine wpList_store34 rfl rfl rfl rfl hvy (by rfl) (pcs_one _) ?_;intro w4 hn4 hg4 hz4;have hvx:=hvx.grown hg4 (by intro e9;injection e9 with e9;omega);have hB:=hB.grown hg4 hB.size (fun k9 hk9=>by cases hk9;omega))|refine wpList_load34g rfl rfl rfl hvx HO.out.1 ?_|refine wpList_load34g rfl rfl rfl hn4 (by rfl) ?_)
 refine(same_any (n+1) x (trV x.b) _ _ w4 (HXX.out w4 hB hB.size) (rp_bare (ok_tr _) rfl rfl rfl)).mono ?_
 rintro e3 w3 ⟨b1,rfl,hb1,hB3⟩
 have hB:=hB.trans (hB3.mono hB.size)
 have H1:=Lib.hid hb1
 clear hb1
 go_wp2_with fail
 go_ret
 exact⟨b1,rfl,H1.out.trans HP.out.symm,hB⟩
end Go.Proofs.YtkhohjdakcchdaaGreatDoor
namespace Go.Proofs.YtkhohjdakcchdaaGreatDoor
open Go Go.RowKit Go.Shelf
theorem store_vb {W:World} {g:Nat} {cs cs':Array Value} (h:World.vb W g cs) (hs:cs.size=12) (h1:OneC cs'):(storeCells ⟨g,0,none⟩ cs'.toList).run Tryz.prog W= .ok () (W.setRow g cs'):=by
 have:=run_storeCells_from (P:=Tryz.prog) g 34 cs'.toList 0 cs W h (by rw[Nat.zero_add,Array.length_toList,h1.1,hs]) (fun v hv=>by
  have:=Array.all_eq_true_iff_forall_mem.1 h1.2 v (by simpa using hv)
  exact this)
 simpa using this
theorem plain_k1 {x:Vl} (h:x.k=1):plainV x=true↔(rightB x.m x.e=true∧x=numV (x.m,x.e)):=by
 constructor
 ·intro hp
  rcases plain_cases hp with e|⟨p,e,hr⟩|⟨s,e,_⟩|⟨b,e⟩|⟨n,e,_⟩
  ·subst e;simp at h
  ·rw[e];exact⟨rightB_P.2 hr,rfl⟩
  ·subst e;simp[txtV]at h
  ·subst e;simp[trV]at h
  ·subst e;simp[errV]at h
 ·rintro⟨hr,e⟩;rw[e];exact plain_num (rightB_P.1 hr)
set_option maxRecDepth 100000 in
set_option maxHeartbeats 4000000 in
theorem vplain_1 (n:Nat) (x:Vl) (v:Value) (w:World) (hx:Rp w w.heap.size (n+1) x v) (h0:x.k=1):
 Calls Tryz.prog 68 #[v] w (Tells (plainV x=true) w):=by
 have HP:=Lib.hid (plain_k1 h0)
 have hxx:=hx
 obtain⟨L,Bs,Ps,rfl,hok,_,_,_,_⟩:=hx
 obtain⟨C,hC⟩:∃C,vcs x L Bs Ps=C:=⟨_,rfl⟩
 have x0:C[0]? =some (.int .i64 1):=by rw[←hC,←h0];rfl
 have x1:C[1]? =some (.int .i64 x.m):=by rw[←hC];rfl
 have x2:C[2]? =some (.int .i64 x.e):=by rw[←hC];rfl
 rw[hC]at hxx⊢
 have hO:=hxx.one
 have HXX:=Lib.hid (show ∀W,Below w.heap.size w W→w.heap.size≤W.heap.size→Rp W W.heap.size (n+1) x (.agg C)from fun W hW hz=>hxx.below hW hz)
 have HO:=Lib.hid hO
 have CR:=Lib.hid (show ∀W,Calls Tryz.prog 80 #[.agg #[.int .i64 x.m,.int .i64 x.e]] W fun e w'=>e= .returned (.bool (rightB x.m x.e))∧Below W.heap.size W w' from fun W=>right_any x.m x.e W hok.m.1 hok.m.2)
 have HM:=Lib.hid (And.intro hok.m hok.e)
 clear hC h0 hxx hO hok
 generalize rightB x.m x.e=rb at CR HP
 go_enter Tryz.func68,Tryz.ntmps68
 go_wp2_with (refine wpList_alloc34 rfl rfl ?_)
 obtain⟨W,hW⟩:∃W,W=(w.alloc (.cells C 34)).alloc (.cells vz 34):=⟨_,rfl⟩
 rw[←hW]
 have hvx:World.vb W w.heap.size C:=by rw[hW];exact(World.vb_new w C).alloc _
 have hvy:World.vb W (w.heap.size+1) vz:=by rw[hW];exact World.vb_new' _ _ _ (by simp)
 have hB:Below w.heap.size w W:=by rw[hW];exact((Below.refl _ w).alloc (Nat.le_refl _) _).alloc (by simp) _
 clear hW
 have hvx:=hvx.drew
 have hvy:=hvy.drew
 have hB:=hB.drew
 have c1:=hvx.cell x1
 have c2:=hvx.cell x2
 have hst:∀W,World.vb W (w.heap.size+1) vz→(storeCells ⟨w.heap.size+1,0,none⟩ (pcs (numV (x.m,x.e))).toList).run Tryz.prog W= .ok () (W.setRow (w.heap.size+1) (pcs (numV (x.m,x.e)))):=fun W h=>store_vb h rfl (pcs_one _)
 go_region_held3 (fun w'=>w'.cell? ⟨w.heap.size,1,none⟩=some (.int .i64 x.m)∧w'.cell? ⟨w.heap.size,2,none⟩=some (.int .i64 x.e))
  (first|exact⟨c1,c2⟩|exact⟨((hvx.grown (setRow_grownBy _ _ _) (by intro e9;injection e9 with e9;omega))).cell x1,((hvx.grown (setRow_grownBy _ _ _) (by intro e9;injection e9 with e9;omega))).cell x2⟩|fail)
  (first|(go_at_call 44;refine(number_any x.m x.e _).mono ?_;rintro e2 w2 ⟨rfl,hB2⟩;have hvx:=hvx.below hB2 hvx.lt;have hvy:=hvy.below hB2 hvy.lt;have hB:=hB.trans (hB2.mono hB.size);have c1:=hvx.cell x1;have c2:=hvx.cell x2)|(go_at_call 80;refine(CR.out _).mono ?_;rintro e2 w2 ⟨rfl,hB2⟩;have hvx:=hvx.below hB2 hvx.lt;have hvy:=hvy.below hB2 hvy.lt;have hB:=hB.trans (hB2.mono hB.size);have c1:=hvx.cell x1;have c2:=hvx.cell x2)|fail)
 all_goals
  clear hst
  obtain⟨W2,hW2⟩:∃W2,W2=w2.setRow (w.heap.size+1) (pcs (numV (x.m,x.e))):=⟨_,rfl⟩
  rw[←hW2]
  have hg4:w2.grownBy W2 (some (w.heap.size+1)):=by rw[hW2];exact setRow_grownBy _ _ _
  have hn4:World.vb W2 (w.heap.size+1) (pcs (numV (x.m,x.e))):=by rw[hW2];exact hvy.setRow
  have hvx:=hvx.grown hg4 (by intro e9;injection e9 with e9;omega)
  have hB:=hB.grown hg4 hB.size (fun k9 hk9=>by cases hk9;omega)
  clear hW2 hg4
  cases rb with
  |false=>
   go_wp2_with fail
   go_ret
   exact⟨false,rfl,⟨(fun h=>by cases h),fun h=>absurd (HP.out.1 h).1 (by decide)⟩,hB⟩
  |true=>
   go_wp2_with (first|refine wpList_load34g rfl rfl rfl hvx HO.out.1 ?_|refine wpList_load34g rfl rfl rfl hn4 (by rfl) ?_)
   refine(same_any (n+1) x (numV (x.m,x.e)) _ _ W2 (HXX.out W2 hB hB.size) (rp_bare (ok_num HM.out.1 HM.out.2) rfl rfl rfl)).mono ?_
   rintro e3 w3 ⟨b1,rfl,hb1,hB3⟩
   have hB:=hB.trans (hB3.mono hB.size)
   have H1:=Lib.hid hb1
   clear hb1
   go_wp2_with fail
   go_ret
   exact⟨b1,rfl,H1.out.trans ⟨fun e=>HP.out.2 ⟨by first|rfl|trivial,e⟩,fun h=>(HP.out.1 h).2⟩,hB⟩
end Go.Proofs.YtkhohjdakcchdaaGreatDoor
namespace Go.Proofs.YtkhohjdakcchdaaGreatDoor
open Go Go.RowKit Go.Shelf
theorem tabs_below {w W:World} (h:Lib.Utf8Tabs 0 1 w) (hb:Below w.heap.size w W):Lib.Utf8Tabs 0 1 W:=
 ⟨fun c hc=>(hb.cell (p:=⟨0,c,none⟩) (World.block_lt_of_cell? _ _ (h.1 c hc))).trans (h.1 c hc),fun i hi=>⟨(hb.cell (p:=⟨1,2*i,none⟩) (World.block_lt_of_cell? _ _ (h.2 i hi).1)).trans (h.2 i hi).1,(hb.cell (p:=⟨1,2*i+1,none⟩) (World.block_lt_of_cell? _ _ (h.2 i hi).2)).trans (h.2 i hi).2⟩⟩
theorem plain_k2 {x:Vl} (h:x.k=2):plainV x=true↔(txtOk x.s=true∧x=txtV x.s):=by
 constructor
 ·intro hp
  rcases plain_cases hp with e|⟨p,e,hr⟩|⟨s,e,hs⟩|⟨b,e⟩|⟨n,e,_⟩
  ·subst e;simp at h
  ·subst e;simp[numV]at h
  ·rw[e];exact⟨hs,rfl⟩
  ·subst e;simp[trV]at h
  ·subst e;simp[errV]at h
 ·rintro⟨hr,e⟩;rw[e];exact plain_txt hr
set_option maxRecDepth 100000 in
set_option maxHeartbeats 4000000 in
theorem vplain_2 (n:Nat) (x:Vl) (v:Value) (w:World) (hx:Rp w w.heap.size (n+1) x v) (h0:x.k=2) (hT:Lib.Utf8Tabs 0 1 w):
 Calls Tryz.prog 68 #[v] w (Tells (plainV x=true) w):=by
 have HP:=Lib.hid (plain_k2 h0)
 have hxx:=hx
 obtain⟨L,Bs,Ps,rfl,hok,_,_,_,_⟩:=hx
 obtain⟨C,hC⟩:∃C,vcs x L Bs Ps=C:=⟨_,rfl⟩
 have x0:C[0]? =some (.int .i64 2):=by rw[←hC,←h0];rfl
 have x3:C[3]? =some (.string x.s):=by rw[←hC];rfl
 rw[hC]at hxx⊢
 have hO:=hxx.one
 have HXX:=Lib.hid (show ∀W,Below w.heap.size w W→w.heap.size≤W.heap.size→Rp W W.heap.size (n+1) x (.agg C)from fun W hW hz=>hxx.below hW hz)
 have HO:=Lib.hid hO
 have CR:=Lib.hid (show ∀W,Below w.heap.size w W→Calls Tryz.prog 51 #[.string x.s] W (Gives (.bool (txtOk x.s)) W)from fun W hb=>vtext_any x.s W (by have:=hok.s;omega) (tabs_below hT hb))
 have HM:=Lib.hid hok.s
 clear hC h0 hxx hO hok hT
 generalize txtOk x.s=rb at CR HP
 go_enter Tryz.func68,Tryz.ntmps68
 go_wp2_with (refine wpList_alloc34 rfl rfl ?_)
 obtain⟨W,hW⟩:∃W,W=(w.alloc (.cells C 34)).alloc (.cells vz 34):=⟨_,rfl⟩
 rw[←hW]
 have hvx:World.vb W w.heap.size C:=by rw[hW];exact(World.vb_new w C).alloc _
 have hvy:World.vb W (w.heap.size+1) vz:=by rw[hW];exact World.vb_new' _ _ _ (by simp)
 have hB:Below w.heap.size w W:=by rw[hW];exact((Below.refl _ w).alloc (Nat.le_refl _) _).alloc (by simp) _
 clear hW
 have hvx:=hvx.drew
 have hvy:=hvy.drew
 have hB:=hB.drew
 have c3:=hvx.cell x3
 have hst:∀W,World.vb W (w.heap.size+1) vz→(storeCells ⟨w.heap.size+1,0,none⟩ (pcs (txtV x.s)).toList).run Tryz.prog W= .ok () (W.setRow (w.heap.size+1) (pcs (txtV x.s))):=fun W h=>store_vb h rfl (pcs_one _)
 go_region_held3 (fun w'=>w'.cell? ⟨w.heap.size,3,none⟩=some (.string x.s))
  (first|exact c3|exact(hvx.grown (setRow_grownBy _ _ _) (by intro e9;injection e9 with e9;omega)).cell x3|fail)
  (first|(go_at_call 52;refine(said_any x.s _).mono ?_;rintro e2 w2 ⟨rfl,hB2⟩;have hvx:=hvx.below hB2 hvx.lt;have hvy:=hvy.below hB2 hvy.lt;have hB:=hB.trans (hB2.mono hB.size);have c3:=hvx.cell x3)|(go_at_call 51;refine(CR.out _ hB).mono ?_;rintro e2 w2 ⟨rfl,hB2⟩;have hvx:=hvx.below hB2 hvx.lt;have hvy:=hvy.below hB2 hvy.lt;have hB:=hB.trans (hB2.mono hB.size);have c3:=hvx.cell x3)|fail)
 all_goals
  clear hst
  obtain⟨W2,hW2⟩:∃W2,W2=w2.setRow (w.heap.size+1) (pcs (txtV x.s)):=⟨_,rfl⟩
  rw[←hW2]
  have hg4:w2.grownBy W2 (some (w.heap.size+1)):=by rw[hW2];exact setRow_grownBy _ _ _
  have hn4:World.vb W2 (w.heap.size+1) (pcs (txtV x.s)):=by rw[hW2];exact hvy.setRow
  have hvx:=hvx.grown hg4 (by intro e9;injection e9 with e9;omega)
  have hB:=hB.grown hg4 hB.size (fun k9 hk9=>by cases hk9;omega)
  clear hW2 hg4
  cases rb with
  |false=>
   go_wp2_with fail
   go_ret
   exact⟨false,rfl,⟨(fun h=>by cases h),fun h=>absurd (HP.out.1 h).1 (by decide)⟩,hB⟩
  |true=>
   go_wp2_with (first|refine wpList_load34g rfl rfl rfl hvx HO.out.1 ?_|refine wpList_load34g rfl rfl rfl hn4 (by rfl) ?_)
   refine(same_any (n+1) x (txtV x.s) _ _ W2 (HXX.out W2 hB hB.size) (rp_bare (ok_txt HM.out) rfl rfl rfl)).mono ?_
   rintro e3 w3 ⟨b1,rfl,hb1,hB3⟩
   have hB:=hB.trans (hB3.mono hB.size)
   have H1:=Lib.hid hb1
   clear hb1
   go_wp2_with fail
   go_ret
   exact⟨b1,rfl,H1.out.trans ⟨fun e=>HP.out.2 ⟨by first|rfl|trivial,e⟩,fun h=>(HP.out.1 h).2⟩,hB⟩
end Go.Proofs.YtkhohjdakcchdaaGreatDoor
namespace Go.Proofs.YtkhohjdakcchdaaGreatDoor
open Go Go.RowKit Go.Shelf
theorem plain_k4 {x:Vl} (h:x.k=4):plainV x=true↔((1≤x.err∧x.err≤9)∧x=errV x.err):=by
 constructor
 ·intro hp
  rcases plain_cases hp with e|⟨p,e,hr⟩|⟨s,e,hs⟩|⟨b,e⟩|⟨n,e,h1,h2⟩
  ·subst e;simp at h
  ·subst e;simp[numV]at h
  ·subst e;simp[txtV]at h
  ·subst e;simp[trV]at h
  ·rw[e];exact⟨⟨h1,h2⟩,rfl⟩
 ·rintro⟨⟨h1,h2⟩,e⟩;rw[e];exact plain_err h1 h2
set_option maxRecDepth 100000 in
set_option maxHeartbeats 4000000 in
theorem vplain_4 (n:Nat) (x:Vl) (v:Value) (w:World) (hx:Rp w w.heap.size (n+1) x v) (h0:x.k=4) (hr:1≤x.err∧x.err≤9):
 Calls Tryz.prog 68 #[v] w (Tells (plainV x=true) w):=by
 have HP:=Lib.hid (plain_k4 h0)
 have hxx:=hx
 obtain⟨L,Bs,Ps,rfl,hok,_,_,_,_⟩:=hx
 obtain⟨C,hC⟩:∃C,vcs x L Bs Ps=C:=⟨_,rfl⟩
 have x0:C[0]? =some (.int .i64 4):=by rw[←hC,←h0];rfl
 have x5:C[5]? =some (.int .i64 x.err):=by rw[←hC];rfl
 rw[hC]at hxx⊢
 have hO:=hxx.one
 have HXX:=Lib.hid (show ∀W,Below w.heap.size w W→w.heap.size≤W.heap.size→Rp W W.heap.size (n+1) x (.agg C)from fun W hW hz=>hxx.below hW hz)
 have HO:=Lib.hid hO
 have HM:=Lib.hid hok.err
 clear hC h0 hxx hO hok
 obtain⟨er,her⟩:∃er,x.err=er:=⟨_,rfl⟩
 rw[her]at x5 HP HM hr
 clear her
 obtain⟨g1,g2⟩:=hr
 go_enter Tryz.func68,Tryz.ntmps68
 go_wp2_with (refine wpList_alloc34 rfl rfl ?_)
 obtain⟨W,hW⟩:∃W,W=(w.alloc (.cells C 34)).alloc (.cells vz 34):=⟨_,rfl⟩
 rw[←hW]
 have hvx:World.vb W w.heap.size C:=by rw[hW];exact(World.vb_new w C).alloc _
 have hvy:World.vb W (w.heap.size+1) vz:=by rw[hW];exact World.vb_new' _ _ _ (by simp)
 have hB:Below w.heap.size w W:=by rw[hW];exact((Below.refl _ w).alloc (Nat.le_refl _) _).alloc (by simp) _
 clear hW
 have hvx:=hvx.drew
 have hvy:=hvy.drew
 have hB:=hB.drew
 have c5:=hvx.cell x5
 have hst:∀W,World.vb W (w.heap.size+1) vz→(storeCells ⟨w.heap.size+1,0,none⟩ (pcs (errV er)).toList).run Tryz.prog W= .ok () (W.setRow (w.heap.size+1) (pcs (errV er))):=fun W h=>store_vb h rfl (pcs_one _)
 go_region_held3 (fun w'=>w'.cell? ⟨w.heap.size,5,none⟩=some (.int .i64 er))
  (first|exact c5|exact(hvx.grown (setRow_grownBy _ _ _) (by intro e9;injection e9 with e9;omega)).cell x5|fail)
  (first|(go_at_call 49;refine(err_any er _).mono ?_;rintro e2 w2 ⟨rfl,hB2⟩;have hvx:=hvx.below hB2 hvx.lt;have hvy:=hvy.below hB2 hvy.lt;have hB:=hB.trans (hB2.mono hB.size);have c5:=hvx.cell x5)|fail)
 all_goals
  clear hst
  obtain⟨W2,hW2⟩:∃W2,W2=w2.setRow (w.heap.size+1) (pcs (errV er)):=⟨_,rfl⟩
  rw[←hW2]
  have hg4:w2.grownBy W2 (some (w.heap.size+1)):=by rw[hW2];exact setRow_grownBy _ _ _
  have hn4:World.vb W2 (w.heap.size+1) (pcs (errV er)):=by rw[hW2];exact hvy.setRow
  have hvx:=hvx.grown hg4 (by intro e9;injection e9 with e9;omega)
  have hB:=hB.grown hg4 hB.size (fun k9 hk9=>by cases hk9;omega)
  clear hW2 hg4
  go_wp2_with (first|refine wpList_load34g rfl rfl rfl hvx HO.out.1 ?_|refine wpList_load34g rfl rfl rfl hn4 (by rfl) ?_)
  refine(same_any (n+1) x (errV er) _ _ W2 (HXX.out W2 hB hB.size) (rp_bare (ok_err HM.out) rfl rfl rfl)).mono ?_
  rintro e3 w3 ⟨b1,rfl,hb1,hB3⟩
  have hB:=hB.trans (hB3.mono hB.size)
  have H1:=Lib.hid hb1
  clear hb1
  go_wp2_with fail
  go_ret
  exact⟨b1,rfl,H1.out.trans ⟨fun e=>HP.out.2 ⟨⟨by omega,by omega⟩,e⟩,fun h=>(HP.out.1 h).2⟩,hB⟩
/-- At any plain value. -/
theorem vplain_any (n:Nat) (x:Vl) (v:Value) (w:World) (hx:Rp w w.heap.size (n+1) x v) (hp:plainV x=true) (hT:Lib.Utf8Tabs 0 1 w):
 Calls Tryz.prog 68 #[v] w (Gives (.bool true) w):=by
 have h:Calls Tryz.prog 68 #[v] w (Tells (plainV x=true) w):=by
  rcases plain_cases hp with e|⟨p,e,_⟩|⟨s,e,_⟩|⟨b,e⟩|⟨m,e,h1,h2⟩
  ·exact vplain_0 n x v w hx (by rw[e])
  ·exact vplain_1 n x v w hx (by rw[e];rfl)
  ·exact vplain_2 n x v w hx (by rw[e];rfl) hT
  ·exact vplain_3 n x v w hx (by rw[e];rfl)
  ·exact vplain_4 n x v w hx (by rw[e];rfl) (by rw[e];exact⟨h1,h2⟩)
 refine h.mono ?_
 rintro e w' ⟨b,rfl,hb,hB⟩
 rw[hb.2 hp]
 exact⟨rfl,hB⟩
end Go.Proofs.YtkhohjdakcchdaaGreatDoor
