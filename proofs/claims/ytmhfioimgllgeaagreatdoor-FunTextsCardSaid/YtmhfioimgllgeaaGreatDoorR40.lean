/- Merged: Con, Mke, Cpy, Fns, Upp. -/
import Derived.Test.YtmhfioimgllgeaaGreatDoorR38
import Derived.Test.YtmhfioimgllgeaaGreatDoorR39
import Derived.Test.YtmhfioimgllgeaaGreatDoorR01
namespace Go.Proofs.YtmhfioimgllgeaaGreatDoor
open Go Go.RowKit Go.Shelf
def fz :Array Value:= #[.int .i64 0,.int .i64 0,.string ⟨#[]⟩,.nilFunc,.nilFunc]
theorem zero83 (w:World):(zeroValue 83).run Tryz.prog w= .ok (.agg fz) w:=by kernel_rfl
theorem info83 :(Tryz.prog.info? 83).map (·.size)=some 5:=by kernel_rfl
abbrev fnV (g:Nat) (ps:Array Value):Value:= .func (.func g) #[] ps
theorem build_one (a b:Int) (s:ByteArray) (g:Nat) (ps:Array Value) (w:World):(Instr.build 83 #[(0,.int .i64 a),(1,.int .i64 b),(2,.string s),(3,fnV g ps)]).run Tryz.prog w= .ok (.agg #[.int .i64 a,.int .i64 b,.string s,fnV g ps,.nilFunc]) w:=by kernel_rfl
theorem build_all (a b:Int) (g:Nat) (ps:Array Value) (w:World):(Instr.build 83 #[(0,.int .i64 a),(1,.int .i64 b),(4,fnV g ps)]).run Tryz.prog w= .ok (.agg #[.int .i64 a,.int .i64 b,.string ⟨#[]⟩,.nilFunc,fnV g ps]) w:=by kernel_rfl
/-- Five cells, each one. -/
def OneF (cs:Array Value):Prop:=cs.size=5∧cs.all (·.oneCell')=true
section
variable {ops : Array Oper} {rest : List Oper} {o : Oper} {a : Act} {w : World} {Q : Exit → Act → World → Prop}
theorem wpList_alloc83 (hgd:o.guard=none) (ho:o.op= .alloc 83)
 (h:wpList Tryz.prog ops Q rest (a.put o.dst (.pointer (some ⟨w.heap.size,0,none⟩))) (w.alloc (.cells fz 83))):wpList Tryz.prog ops Q (o :: rest) a w:=
 wpList_plain hgd fun K hK=>by
  have hz:=zero83 w
  unfold Oper.wp execOp
  simp[ho,Instr.alloc,Sem.run_bind,hz,newVar,newRow,newObj,Value.cells]
  exact hK _ _ h
theorem wpList_store83 {x y:Operand} {g:Nat} {cs cs':Array Value} (hgd:o.guard=none) (ho:o.op= .store 83 x y) (hx:a.eval x= .pointer (some ⟨g,0,none⟩)) (hy:a.eval y= .agg cs')
 (hn:World.blk w g 83 cs) (hs:cs.size=5) (h1:OneF cs') (h:∀w1,World.blk w1 g 83 cs'→w.grownBy w1 (some g)→w1.heap.size=w.heap.size→wpList Tryz.prog ops Q rest (a.put o.dst undef) w1):wpList Tryz.prog ops Q (o :: rest) a w:=
 wpList_store_row hgd 83 x y ho g _ hx hy 83 _ hn (by rw[h1.1];exact info83) (by rw[hs,h1.1]) h1.2 (h _ (setRow_heap w g _ _ 83 _ hn) (setRow_grownBy _ _ _) (by simp))
theorem wpList_build1 {x y z u:Operand} {p q:Int} {s:ByteArray} {g:Nat} {ps:Array Value} (hgd:o.guard=none) (ho:o.op= .build 83 #[(0,x),(1,y),(2,z),(3,u)])
 (hx:a.eval x= .int .i64 p) (hy:a.eval y= .int .i64 q) (hz:a.eval z= .string s) (hu:a.eval u=fnV g ps)
 (h:wpList Tryz.prog ops Q rest (a.put o.dst (.agg #[.int .i64 p,.int .i64 q,.string s,fnV g ps,.nilFunc])) w):wpList Tryz.prog ops Q (o :: rest) a w:=
 wpList_plain hgd fun K hK=>by
  have hb:=build_one p q s g ps w
  unfold Oper.wp execOp
  simp[ho,hx,hy,hz,hu,hb]
  exact hK _ _ h
theorem wpList_build4 {x y u:Operand} {p q:Int} {g:Nat} {ps:Array Value} (hgd:o.guard=none) (ho:o.op= .build 83 #[(0,x),(1,y),(4,u)])
 (hx:a.eval x= .int .i64 p) (hy:a.eval y= .int .i64 q) (hu:a.eval u=fnV g ps)
 (h:wpList Tryz.prog ops Q rest (a.put o.dst (.agg #[.int .i64 p,.int .i64 q,.string ⟨#[]⟩,.nilFunc,fnV g ps])) w):wpList Tryz.prog ops Q (o :: rest) a w:=
 wpList_plain hgd fun K hK=>by
  have hb:=build_all p q g ps w
  unfold Oper.wp execOp
  simp[ho,hx,hy,hu,hb]
  exact hK _ _ h
end
theorem blk_new' (w:World) (t:Nat) (cs:Array Value) (n:Nat) (hn:n=w.heap.size):World.blk (w.alloc (.cells cs t)) n t cs:=by subst hn;exact blk_new w t cs
/-- An entry is handed back. -/
def EntPost (e:Ent) (w:World) (E:Ending) (w':World):Prop:=∃v,E= .returned v∧e.At w' v∧Below w.heap.size w w'
theorem ent_form {e:Ent} {w:World} {v:Value} (h:e.At w v):∃cs,v= .agg cs∧OneF cs:=by
 obtain⟨a,b,rfl,h1,h2⟩:=h
 refine⟨_,rfl,rfl,?_⟩
 have fa:a.oneCell'=true:=by
  cases ho:e.one with
  |none=>rw[ho]at h1;cases h1;rfl
  |some d=>rw[ho]at h1;obtain⟨g,ps,rfl⟩:=Ds.At.form h1;rfl
 have fb:b.oneCell'=true:=by
  cases ho:e.all with
  |none=>rw[ho]at h2;cases h2;rfl
  |some d=>rw[ho]at h2;obtain⟨g,ps,rfl⟩:=Ds.At.form h2;rfl
 simp only[List.all_toArray,List.all_cons,List.all_nil,fa,fb,Bool.and_true]
 rfl
set_option maxRecDepth 100000 in
set_option maxHeartbeats 2000000 in
theorem of_ent (p q:Int) (d:Ds) (v:Value) (w:World) (h:d.At w v):Calls Tryz.prog 184 #[.int .i64 p,.int .i64 q,v] w (EntPost {least:=p,most:=q,all:=some d} w):=by
 obtain⟨g,ps,hv⟩:=h.form
 subst hv
 have HB:=Lib.hid h
 clear h
 go_enter Tryz.func184,Tryz.ntmps184
 go_wp2_with (first|refine wpList_alloc83 rfl rfl ?_|refine wpList_build4 rfl rfl (by rfl) (by rfl) (by rfl) ?_|(refine wpList_store83 rfl rfl rfl rfl (blk_new' _ _ _ _ (by simp)) (by rfl) ⟨rfl,by simp[Value.oneCell']⟩ ?_;intro w1 hn1 hg1 hz1))
 refine bodyPost_ret (results_cell_row rfl _ _ _ 83 _ (0,0) _ rfl hn1 Tryz.underlying83 rfl info83) rfl ?_
 have hB:Below w.heap.size w w1:=((Below.refl _ w).alloc (Nat.le_refl _) _).grown hg1 (by simp) (fun k hk=>by cases hk;simp)
 exact⟨_,rfl,⟨_,_,rfl,rfl,HB.out.below hB⟩,hB⟩
/-- A closure's box, behind its making. -/
theorem bx_made {w W:World} {t:Nat} {v:Value} {o:Obj} {B:Nat} (hb:Below B ((w.alloc (.cells #[v] t)).alloc o) W) (hB:w.heap.size<B):Bx W (.pointer (some ⟨w.heap.size,0,none⟩)) v:=by
 have h:=(blk_new w t #[v])
 have h2:World.blk ((w.alloc (.cells #[v] t)).alloc o) w.heap.size t #[v]:=by unfold World.blk;rw[heap_alloc_old _ _ h.lt];exact h
 exact⟨_,t,rfl,h2.below hb hB⟩
set_option maxRecDepth 100000 in
set_option maxHeartbeats 2000000 in
theorem texts_ent (p q:Int) (s:List UInt8) (d:Ds) (v:Value) (w:World) (h:d.At w v):Calls Tryz.prog 149 #[.int .i64 p,.int .i64 q,.string (mk s),v] w (EntPost {least:=p,most:=q,how:=s,one:=some (.c 243 d)} w):=by
 obtain⟨g,ps,hv⟩:=h.form
 subst hv
 have HB:=Lib.hid h
 clear h
 go_enter Tryz.func149,Tryz.ntmps149
 go_wp2_with (first|refine wpList_alloc83 rfl rfl ?_|refine wpList_build1 rfl rfl (by rfl) (by rfl) (by rfl) (by rfl) ?_|(refine wpList_store83 rfl rfl rfl rfl (blk_new' _ _ _ _ (by simp)) (by rfl) ⟨rfl,by simp[Value.oneCell']⟩ ?_;intro w1 hn1 hg1 hz1))
 refine bodyPost_ret (results_cell_row rfl _ _ _ 83 _ (0,0) _ rfl hn1 Tryz.underlying83 rfl info83) rfl ?_
 have hB2:Below (w.heap.size+1) ((w.alloc (.cells #[fnV g ps] 165)).alloc (.cells fz 83)) w1:=(Below.refl _ _).grown hg1 (by simp) (fun k hk=>by cases hk;simp)
 have hB:Below w.heap.size w w1:=(((Below.refl _ w).alloc (Nat.le_refl _) _).alloc (by simp) _).trans (hB2.mono (by omega))
 exact⟨_,rfl,⟨_,_,rfl,⟨_,_,rfl,bx_made hB2 (by omega),HB.out.below hB⟩,rfl⟩,hB⟩
set_option maxRecDepth 100000 in
set_option maxHeartbeats 2000000 in
theorem is_ent (d:Ds) (v:Value) (w:World) (h:d.At w v):Calls Tryz.prog 147 #[v] w (EntPost {least:=1,most:=1,how:= [118],one:=some (.c 242 d)} w):=by
 obtain⟨g,ps,hv⟩:=h.form
 subst hv
 have HB:=Lib.hid h
 clear h
 go_enter Tryz.func147,Tryz.ntmps147
 go_wp2_with (first|refine wpList_alloc83 rfl rfl ?_|refine wpList_build1 rfl rfl (by rfl) (by rfl) (by rfl) (by rfl) ?_|(refine wpList_store83 rfl rfl rfl rfl (blk_new' _ _ _ _ (by simp)) (by rfl) ⟨rfl,by simp[Value.oneCell']⟩ ?_;intro w1 hn1 hg1 hz1))
 refine bodyPost_ret (results_cell_row rfl _ _ _ 83 _ (0,0) _ rfl hn1 Tryz.underlying83 rfl info83) rfl ?_
 have hB2:Below (w.heap.size+1) ((w.alloc (.cells #[fnV g ps] 41)).alloc (.cells fz 83)) w1:=(Below.refl _ _).grown hg1 (by simp) (fun k hk=>by cases hk;simp)
 have hB:Below w.heap.size w w1:=(((Below.refl _ w).alloc (Nat.le_refl _) _).alloc (by simp) _).trans (hB2.mono (by omega))
 exact⟨_,rfl,⟨_,_,rfl,⟨_,_,rfl,bx_made hB2 (by omega),HB.out.below hB⟩,rfl⟩,hB⟩
set_option maxRecDepth 100000 in
set_option maxHeartbeats 2000000 in
theorem gathered_ent  (d:Ds) (v:Value) (w:World) (h:d.At w v):Calls Tryz.prog 163 #[v] w (EntPost {least:=1,most:=20,all:=some (.c 253 d)} w):=by
 obtain⟨g,ps,hv⟩:=h.form
 subst hv
 have HB:=Lib.hid h
 clear h
 go_enter Tryz.func163,Tryz.ntmps163
 go_wp2_with (refine wpList_alloc83 rfl rfl ?_)
 obtain⟨W,hW⟩:∃W,W=(w.alloc (.cells #[fnV g ps] 171)).alloc (.cells fz 83):=⟨_,rfl⟩
 rw[←hW]
 have hB:Below w.heap.size w W:=by rw[hW];exact((Below.refl _ w).alloc (Nat.le_refl _) _).alloc (by simp) _
 have hn:World.blk W (w.heap.size+1) 83 fz:=by rw[hW];exact blk_new' _ _ _ _ (by simp)
 have hbx:Bx W (.pointer (some ⟨w.heap.size,0,none⟩)) (fnV g ps):=by rw[hW];exact bx_made (Below.refl (w.heap.size+1) _) (by omega)
 have hD:(Ds.c 253 d).At W (fnV 253 #[.pointer (some ⟨w.heap.size,0,none⟩)]):=⟨_,_,rfl,hbx,HB.out.below hB⟩
 clear hW hbx
 refine(of_ent 1 20 _ _ W hD).mono ?_
 rintro e w1 ⟨v1,rfl,hv1,hB1⟩
 obtain⟨cs,rfl,hcs⟩:=ent_form hv1
 have hn1:=hn.below hB1 hn.lt
 have hnl:=hn.lt
 have hbz:=hB.size
 have hb1:=hB1.size
 have HE:=Lib.hid hv1
 have HO:=Lib.hid hcs
 clear hv1 hcs
 go_wp2_with (refine wpList_store83 rfl rfl rfl rfl hn1 (by rfl) HO.out ?_;intro w2 hn2 hg2 hz2)
 refine bodyPost_ret (results_cell_row rfl _ _ _ 83 _ (0,0) _ rfl hn2 Tryz.underlying83 rfl (by rw[HO.out.1];exact info83)) rfl ?_
 have hB3:Below w.heap.size w w2:=(hB.trans (hB1.mono hbz)).grown hg2 (by omega) (fun k hk=>by cases hk;omega)
 exact⟨_,rfl,HE.out.grown (away5 hn1 rfl) hg2,hB3⟩
set_option maxRecDepth 100000 in
set_option maxHeartbeats 2000000 in
theorem counter_ent  (d:Ds) (v:Value) (w:World) (h:d.At w v):Calls Tryz.prog 173 #[v] w (EntPost {least:=1,most:=20,all:=some (.c 257 d)} w):=by
 obtain⟨g,ps,hv⟩:=h.form
 subst hv
 have HB:=Lib.hid h
 clear h
 go_enter Tryz.func173,Tryz.ntmps173
 go_wp2_with (refine wpList_alloc83 rfl rfl ?_)
 obtain⟨W,hW⟩:∃W,W=(w.alloc (.cells #[fnV g ps] 41)).alloc (.cells fz 83):=⟨_,rfl⟩
 rw[←hW]
 have hB:Below w.heap.size w W:=by rw[hW];exact((Below.refl _ w).alloc (Nat.le_refl _) _).alloc (by simp) _
 have hn:World.blk W (w.heap.size+1) 83 fz:=by rw[hW];exact blk_new' _ _ _ _ (by simp)
 have hbx:Bx W (.pointer (some ⟨w.heap.size,0,none⟩)) (fnV g ps):=by rw[hW];exact bx_made (Below.refl (w.heap.size+1) _) (by omega)
 have hD:(Ds.c 257 d).At W (fnV 257 #[.pointer (some ⟨w.heap.size,0,none⟩)]):=⟨_,_,rfl,hbx,HB.out.below hB⟩
 clear hW hbx
 refine(of_ent 1 20 _ _ W hD).mono ?_
 rintro e w1 ⟨v1,rfl,hv1,hB1⟩
 obtain⟨cs,rfl,hcs⟩:=ent_form hv1
 have hn1:=hn.below hB1 hn.lt
 have hnl:=hn.lt
 have hbz:=hB.size
 have hb1:=hB1.size
 have HE:=Lib.hid hv1
 have HO:=Lib.hid hcs
 clear hv1 hcs
 go_wp2_with (refine wpList_store83 rfl rfl rfl rfl hn1 (by rfl) HO.out ?_;intro w2 hn2 hg2 hz2)
 refine bodyPost_ret (results_cell_row rfl _ _ _ 83 _ (0,0) _ rfl hn2 Tryz.underlying83 rfl (by rw[HO.out.1];exact info83)) rfl ?_
 have hB3:Below w.heap.size w w2:=(hB.trans (hB1.mono hbz)).grown hg2 (by omega) (fun k hk=>by cases hk;omega)
 exact⟨_,rfl,HE.out.grown (away5 hn1 rfl) hg2,hB3⟩
set_option maxRecDepth 100000 in
set_option maxHeartbeats 2000000 in
theorem ranked_ent  (d:Ds) (v:Value) (w:World) (h:d.At w v):Calls Tryz.prog 177 #[v] w (EntPost {least:=2,most:=2,all:=some (.c 259 d)} w):=by
 obtain⟨g,ps,hv⟩:=h.form
 subst hv
 have HB:=Lib.hid h
 clear h
 go_enter Tryz.func177,Tryz.ntmps177
 go_wp2_with (refine wpList_alloc83 rfl rfl ?_)
 obtain⟨W,hW⟩:∃W,W=(w.alloc (.cells #[fnV g ps] 175)).alloc (.cells fz 83):=⟨_,rfl⟩
 rw[←hW]
 have hB:Below w.heap.size w W:=by rw[hW];exact((Below.refl _ w).alloc (Nat.le_refl _) _).alloc (by simp) _
 have hn:World.blk W (w.heap.size+1) 83 fz:=by rw[hW];exact blk_new' _ _ _ _ (by simp)
 have hbx:Bx W (.pointer (some ⟨w.heap.size,0,none⟩)) (fnV g ps):=by rw[hW];exact bx_made (Below.refl (w.heap.size+1) _) (by omega)
 have hD:(Ds.c 259 d).At W (fnV 259 #[.pointer (some ⟨w.heap.size,0,none⟩)]):=⟨_,_,rfl,hbx,HB.out.below hB⟩
 clear hW hbx
 refine(of_ent 2 2 _ _ W hD).mono ?_
 rintro e w1 ⟨v1,rfl,hv1,hB1⟩
 obtain⟨cs,rfl,hcs⟩:=ent_form hv1
 have hn1:=hn.below hB1 hn.lt
 have hnl:=hn.lt
 have hbz:=hB.size
 have hb1:=hB1.size
 have HE:=Lib.hid hv1
 have HO:=Lib.hid hcs
 clear hv1 hcs
 go_wp2_with (refine wpList_store83 rfl rfl rfl rfl hn1 (by rfl) HO.out ?_;intro w2 hn2 hg2 hz2)
 refine bodyPost_ret (results_cell_row rfl _ _ _ 83 _ (0,0) _ rfl hn2 Tryz.underlying83 rfl (by rw[HO.out.1];exact info83)) rfl ?_
 have hB3:Below w.heap.size w w2:=(hB.trans (hB1.mono hbz)).grown hg2 (by omega) (fun k hk=>by cases hk;omega)
 exact⟨_,rfl,HE.out.grown (away5 hn1 rfl) hg2,hB3⟩
set_option maxRecDepth 100000 in
set_option maxHeartbeats 2000000 in
theorem logic_ent  (d:Ds) (v:Value) (w:World) (h:d.At w v):Calls Tryz.prog 180 #[v] w (EntPost {least:=1,most:=20,all:=some (.c 261 d)} w):=by
 obtain⟨g,ps,hv⟩:=h.form
 subst hv
 have HB:=Lib.hid h
 clear h
 go_enter Tryz.func180,Tryz.ntmps180
 go_wp2_with (refine wpList_alloc83 rfl rfl ?_)
 obtain⟨W,hW⟩:∃W,W=(w.alloc (.cells #[fnV g ps] 177)).alloc (.cells fz 83):=⟨_,rfl⟩
 rw[←hW]
 have hB:Below w.heap.size w W:=by rw[hW];exact((Below.refl _ w).alloc (Nat.le_refl _) _).alloc (by simp) _
 have hn:World.blk W (w.heap.size+1) 83 fz:=by rw[hW];exact blk_new' _ _ _ _ (by simp)
 have hbx:Bx W (.pointer (some ⟨w.heap.size,0,none⟩)) (fnV g ps):=by rw[hW];exact bx_made (Below.refl (w.heap.size+1) _) (by omega)
 have hD:(Ds.c 261 d).At W (fnV 261 #[.pointer (some ⟨w.heap.size,0,none⟩)]):=⟨_,_,rfl,hbx,HB.out.below hB⟩
 clear hW hbx
 refine(of_ent 1 20 _ _ W hD).mono ?_
 rintro e w1 ⟨v1,rfl,hv1,hB1⟩
 obtain⟨cs,rfl,hcs⟩:=ent_form hv1
 have hn1:=hn.below hB1 hn.lt
 have hnl:=hn.lt
 have hbz:=hB.size
 have hb1:=hB1.size
 have HE:=Lib.hid hv1
 have HO:=Lib.hid hcs
 clear hv1 hcs
 go_wp2_with (refine wpList_store83 rfl rfl rfl rfl hn1 (by rfl) HO.out ?_;intro w2 hn2 hg2 hz2)
 refine bodyPost_ret (results_cell_row rfl _ _ _ 83 _ (0,0) _ rfl hn2 Tryz.underlying83 rfl (by rw[HO.out.1];exact info83)) rfl ?_
 have hB3:Below w.heap.size w w2:=(hB.trans (hB1.mono hbz)).grown hg2 (by omega) (fun k hk=>by cases hk;omega)
 exact⟨_,rfl,HE.out.grown (away5 hn1 rfl) hg2,hB3⟩
set_option maxRecDepth 100000 in
set_option maxHeartbeats 2000000 in
theorem shaped_ent  (d:Ds) (v:Value) (w:World) (h:d.At w v):Calls Tryz.prog 200 #[v] w (EntPost {least:=1,most:=1,all:=some (.c 266 d)} w):=by
 obtain⟨g,ps,hv⟩:=h.form
 subst hv
 have HB:=Lib.hid h
 clear h
 go_enter Tryz.func200,Tryz.ntmps200
 go_wp2_with (refine wpList_alloc83 rfl rfl ?_)
 obtain⟨W,hW⟩:∃W,W=(w.alloc (.cells #[fnV g ps] 90)).alloc (.cells fz 83):=⟨_,rfl⟩
 rw[←hW]
 have hB:Below w.heap.size w W:=by rw[hW];exact((Below.refl _ w).alloc (Nat.le_refl _) _).alloc (by simp) _
 have hn:World.blk W (w.heap.size+1) 83 fz:=by rw[hW];exact blk_new' _ _ _ _ (by simp)
 have hbx:Bx W (.pointer (some ⟨w.heap.size,0,none⟩)) (fnV g ps):=by rw[hW];exact bx_made (Below.refl (w.heap.size+1) _) (by omega)
 have hD:(Ds.c 266 d).At W (fnV 266 #[.pointer (some ⟨w.heap.size,0,none⟩)]):=⟨_,_,rfl,hbx,HB.out.below hB⟩
 clear hW hbx
 refine(of_ent 1 1 _ _ W hD).mono ?_
 rintro e w1 ⟨v1,rfl,hv1,hB1⟩
 obtain⟨cs,rfl,hcs⟩:=ent_form hv1
 have hn1:=hn.below hB1 hn.lt
 have hnl:=hn.lt
 have hbz:=hB.size
 have hb1:=hB1.size
 have HE:=Lib.hid hv1
 have HO:=Lib.hid hcs
 clear hv1 hcs
 go_wp2_with (refine wpList_store83 rfl rfl rfl rfl hn1 (by rfl) HO.out ?_;intro w2 hn2 hg2 hz2)
 refine bodyPost_ret (results_cell_row rfl _ _ _ 83 _ (0,0) _ rfl hn2 Tryz.underlying83 rfl (by rw[HO.out.1];exact info83)) rfl ?_
 have hB3:Below w.heap.size w w2:=(hB.trans (hB1.mono hbz)).grown hg2 (by omega) (fun k hk=>by cases hk;omega)
 exact⟨_,rfl,HE.out.grown (away5 hn1 rfl) hg2,hB3⟩
set_option maxRecDepth 100000 in
set_option maxHeartbeats 2000000 in
theorem carry_ent (p q:Int) (d:Ds) (v:Value) (w:World) (h:d.At w v):Calls Tryz.prog 194 #[.int .i64 p,.int .i64 q,v] w (EntPost {least:=p,most:=q,all:=some (.c 262 d)} w):=by
 obtain⟨g,ps,hv⟩:=h.form
 subst hv
 have HB:=Lib.hid h
 clear h
 go_enter Tryz.func194,Tryz.ntmps194
 go_wp2_with (refine wpList_alloc83 rfl rfl ?_)
 obtain⟨W,hW⟩:∃W,W=(w.alloc (.cells #[fnV g ps] 81)).alloc (.cells fz 83):=⟨_,rfl⟩
 rw[←hW]
 have hB:Below w.heap.size w W:=by rw[hW];exact((Below.refl _ w).alloc (Nat.le_refl _) _).alloc (by simp) _
 have hn:World.blk W (w.heap.size+1) 83 fz:=by rw[hW];exact blk_new' _ _ _ _ (by simp)
 have hbx:Bx W (.pointer (some ⟨w.heap.size,0,none⟩)) (fnV g ps):=by rw[hW];exact bx_made (Below.refl (w.heap.size+1) _) (by omega)
 have hD:(Ds.c 262 d).At W (fnV 262 #[.pointer (some ⟨w.heap.size,0,none⟩)]):=⟨_,_,rfl,hbx,HB.out.below hB⟩
 clear hW hbx
 refine(of_ent p q _ _ W hD).mono ?_
 rintro e w1 ⟨v1,rfl,hv1,hB1⟩
 obtain⟨cs,rfl,hcs⟩:=ent_form hv1
 have hn1:=hn.below hB1 hn.lt
 have hnl:=hn.lt
 have hbz:=hB.size
 have hb1:=hB1.size
 have HE:=Lib.hid hv1
 have HO:=Lib.hid hcs
 clear hv1 hcs
 go_wp2_with (refine wpList_store83 rfl rfl rfl rfl hn1 (by rfl) HO.out ?_;intro w2 hn2 hg2 hz2)
 refine bodyPost_ret (results_cell_row rfl _ _ _ 83 _ (0,0) _ rfl hn2 Tryz.underlying83 rfl (by rw[HO.out.1];exact info83)) rfl ?_
 have hB3:Below w.heap.size w w2:=(hB.trans (hB1.mono hbz)).grown hg2 (by omega) (fun k hk=>by cases hk;omega)
 exact⟨_,rfl,HE.out.grown (away5 hn1 rfl) hg2,hB3⟩
set_option maxRecDepth 100000 in
set_option maxHeartbeats 2000000 in
theorem nums_ent (p:Int) (q:Nat) (d:Ds) (v:Value) (w:World) (h:d.At w v) (hq:q≤100):Calls Tryz.prog 117 #[.int .i64 p,.int .i64 q,v] w (EntPost {least:=p,most:=q,how:=Lib.repeatL [110] q,one:=some (.c 236 d)} w):=by
 obtain⟨g,ps,hv⟩:=h.form
 subst hv
 have HB:=Lib.hid h
 have HQ:Hid ((⟨(Lib.repeatL [110] q).toArray⟩:ByteArray)=mk (Lib.repeatL [110] q)):=rfl
 obtain⟨R,hR⟩:∃R,(⟨(Lib.repeatL [110] q).toArray⟩:ByteArray)=R:=⟨_,rfl⟩
 clear h
 go_enter Tryz.func117,Tryz.ntmps117
 go_wp2_with (refine wpList_alloc83 rfl rfl ?_)
 obtain⟨W,hW⟩:∃W,W=(w.alloc (.cells #[fnV g ps] 157)).alloc (.cells fz 83):=⟨_,rfl⟩
 rw[←hW]
 have hB:Below w.heap.size w W:=by rw[hW];exact((Below.refl _ w).alloc (Nat.le_refl _) _).alloc (by simp) _
 have hn:World.blk W (w.heap.size+1) 83 fz:=by rw[hW];exact blk_new' _ _ _ _ (by simp)
 have hbx:Bx W (.pointer (some ⟨w.heap.size,0,none⟩)) (fnV g ps):=by rw[hW];exact bx_made (Below.refl (w.heap.size+1) _) (by omega)
 clear hW
 refine(Tryz.strings_Repeat ⟨#[110]⟩ q W (by omega) (by show 1*q≤_;omega)).mono ?_
 rintro e w1 ⟨rfl,hB1⟩
 have e1:(⟨(Lib.repeatL (ByteArray.mk #[110]).data.toList q).toArray⟩:ByteArray)=R:=hR
 rw[e1]
 have hn1:=hn.below hB1 hn.lt
 have hbx1:=hbx.below hB1
 have hnl:=hn.lt
 have hbz:=hB.size
 have hb1:=hB1.size
 clear e1
 have HR:=Lib.hid hR
 clear hR
 go_wp2_with (first|refine wpList_build1 rfl rfl (by rfl) (by rfl) (by rfl) (by rfl) ?_|(refine wpList_store83 rfl rfl rfl rfl hn1 (by rfl) ⟨rfl,by simp[Value.oneCell']⟩ ?_;intro w2 hn2 hg2 hz2))
 refine bodyPost_ret (results_cell_row rfl _ _ _ 83 _ (0,0) _ rfl hn2 Tryz.underlying83 rfl info83) rfl ?_
 have hB3:Below w.heap.size w w2:=(hB.trans (hB1.mono hbz)).grown hg2 (by omega) (fun k hk=>by cases hk;omega)
 refine⟨_,rfl,⟨_,_,?_,⟨_,_,rfl,hbx1.grown (away5 hn1 rfl) hg2,HB.out.below hB3⟩,rfl⟩,hB3⟩
 rw[←HR.out]
 rfl
set_option maxRecDepth 100000 in
set_option maxHeartbeats 2000000 in
theorem div_ent  (d:Ds) (v:Value) (w:World) (h:d.At w v):Calls Tryz.prog 131 #[v] w (EntPost {least:=2,most:=2,how:= [110,110],one:=some (.c 236 (.c 238 d))} w):=by
 obtain⟨g,ps,hv⟩:=h.form
 subst hv
 have HB:=Lib.hid h
 clear h
 go_enter Tryz.func131,Tryz.ntmps131
 go_wp2_with (refine wpList_alloc83 rfl rfl ?_)
 obtain⟨W,hW⟩:∃W,W=(w.alloc (.cells #[fnV g ps] 161)).alloc (.cells fz 83):=⟨_,rfl⟩
 rw[←hW]
 have hB:Below w.heap.size w W:=by rw[hW];exact((Below.refl _ w).alloc (Nat.le_refl _) _).alloc (by simp) _
 have hn:World.blk W (w.heap.size+1) 83 fz:=by rw[hW];exact blk_new' _ _ _ _ (by simp)
 have hbx:Bx W (.pointer (some ⟨w.heap.size,0,none⟩)) (fnV g ps):=by rw[hW];exact bx_made (Below.refl (w.heap.size+1) _) (by omega)
 have hD:(Ds.c 238 d).At W (fnV 238 #[.pointer (some ⟨w.heap.size,0,none⟩)]):=⟨_,_,rfl,hbx,HB.out.below hB⟩
 clear hW hbx
 refine(nums_ent 2 2 _ _ W hD (by decide)).mono ?_
 rintro e w1 ⟨v1,rfl,hv1,hB1⟩
 obtain⟨cs,rfl,hcs⟩:=ent_form hv1
 have hn1:=hn.below hB1 hn.lt
 have hnl:=hn.lt
 have hbz:=hB.size
 have hb1:=hB1.size
 have HE:=Lib.hid hv1
 have HO:=Lib.hid hcs
 clear hv1 hcs
 go_wp2_with (refine wpList_store83 rfl rfl rfl rfl hn1 (by rfl) HO.out ?_;intro w2 hn2 hg2 hz2)
 refine bodyPost_ret (results_cell_row rfl _ _ _ 83 _ (0,0) _ rfl hn2 Tryz.underlying83 rfl (by rw[HO.out.1];exact info83)) rfl ?_
 have hB3:Below w.heap.size w w2:=(hB.trans (hB1.mono hbz)).grown hg2 (by omega) (fun k hk=>by cases hk;omega)
 exact⟨_,rfl,HE.out.grown (away5 hn1 rfl) hg2,hB3⟩
set_option maxRecDepth 100000 in
set_option maxHeartbeats 2000000 in
theorem part_ent  (d:Ds) (v:Value) (w:World) (h:d.At w v):Calls Tryz.prog 152 #[v] w (EntPost {least:=1,most:=2,how:= [116,110],one:=some (.c 243 (.c 244 d))} w):=by
 obtain⟨g,ps,hv⟩:=h.form
 subst hv
 have HB:=Lib.hid h
 clear h
 go_enter Tryz.func152,Tryz.ntmps152
 go_wp2_with (refine wpList_alloc83 rfl rfl ?_)
 obtain⟨W,hW⟩:∃W,W=(w.alloc (.cells #[fnV g ps] 167)).alloc (.cells fz 83):=⟨_,rfl⟩
 rw[←hW]
 have hB:Below w.heap.size w W:=by rw[hW];exact((Below.refl _ w).alloc (Nat.le_refl _) _).alloc (by simp) _
 have hn:World.blk W (w.heap.size+1) 83 fz:=by rw[hW];exact blk_new' _ _ _ _ (by simp)
 have hbx:Bx W (.pointer (some ⟨w.heap.size,0,none⟩)) (fnV g ps):=by rw[hW];exact bx_made (Below.refl (w.heap.size+1) _) (by omega)
 have hD:(Ds.c 244 d).At W (fnV 244 #[.pointer (some ⟨w.heap.size,0,none⟩)]):=⟨_,_,rfl,hbx,HB.out.below hB⟩
 clear hW hbx
 refine(texts_ent 1 2 [116,110] _ _ W hD).mono ?_
 rintro e w1 ⟨v1,rfl,hv1,hB1⟩
 obtain⟨cs,rfl,hcs⟩:=ent_form hv1
 have hn1:=hn.below hB1 hn.lt
 have hnl:=hn.lt
 have hbz:=hB.size
 have hb1:=hB1.size
 have HE:=Lib.hid hv1
 have HO:=Lib.hid hcs
 clear hv1 hcs
 go_wp2_with (refine wpList_store83 rfl rfl rfl rfl hn1 (by rfl) HO.out ?_;intro w2 hn2 hg2 hz2)
 refine bodyPost_ret (results_cell_row rfl _ _ _ 83 _ (0,0) _ rfl hn2 Tryz.underlying83 rfl (by rw[HO.out.1];exact info83)) rfl ?_
 have hB3:Below w.heap.size w w2:=(hB.trans (hB1.mono hbz)).grown hg2 (by omega) (fun k hk=>by cases hk;omega)
 exact⟨_,rfl,HE.out.grown (away5 hn1 rfl) hg2,hB3⟩
set_option maxRecDepth 100000 in
set_option maxHeartbeats 2000000 in
theorem cased_ent (p q:Int) (w:World):Calls Tryz.prog 156 #[.int .i32 p,.int .i32 q] w (EntPost {least:=1,most:=1,how:= [116],one:=some (.c 243 (.j 247 (.int .i32 p) (.int .i32 q)))} w):=by
 go_enter Tryz.func156,Tryz.ntmps156
 go_wp2_with (refine wpList_alloc83 rfl rfl ?_)
 obtain⟨W,hW⟩:∃W,W=((w.alloc (.cells #[.int .i32 p] 21)).alloc (.cells #[.int .i32 q] 21)).alloc (.cells fz 83):=⟨_,rfl⟩
 rw[←hW]
 have hB:Below w.heap.size w W:=by rw[hW];exact(((Below.refl _ w).alloc (Nat.le_refl _) _).alloc (by simp) _).alloc (by simp;omega) _
 have hn:World.blk W (w.heap.size+2) 83 fz:=by rw[hW];exact blk_new' _ _ _ _ (by simp)
 have h1:Bx W (.pointer (some ⟨w.heap.size,0,none⟩)) (.int .i32 p):=by rw[hW];exact bx_made ((Below.refl (w.heap.size+1) _).alloc (by simp) _) (by omega)
 have h2:Bx W (.pointer (some ⟨w.heap.size+1,0,none⟩)) (.int .i32 q):=by
  rw[hW]
  have:=bx_made (w:=w.alloc (.cells #[.int .i32 p] 21)) (t:=21) (v:= .int .i32 q) (o:= .cells fz 83) (Below.refl (w.heap.size+2) _) (by simp)
  rwa [show (w.alloc (.cells #[.int .i32 p] 21)).heap.size=w.heap.size+1 by simp]at this
 have hD:(Ds.j 247 (.int .i32 p) (.int .i32 q)).At W (fnV 247 #[.pointer (some ⟨w.heap.size,0,none⟩),.pointer (some ⟨w.heap.size+1,0,none⟩)]):=⟨_,_,rfl,h1,h2⟩
 clear hW h1 h2
 refine(texts_ent 1 1 [116] _ _ W hD).mono ?_
 rintro e w1 ⟨v1,rfl,hv1,hB1⟩
 obtain⟨cs,rfl,hcs⟩:=ent_form hv1
 have hn1:=hn.below hB1 hn.lt
 have hnl:=hn.lt
 have hbz:=hB.size
 have hb1:=hB1.size
 have HE:=Lib.hid hv1
 have HO:=Lib.hid hcs
 clear hv1 hcs
 go_wp2_with (refine wpList_store83 rfl rfl rfl rfl hn1 (by rfl) HO.out ?_;intro w2 hn2 hg2 hz2)
 refine bodyPost_ret (results_cell_row rfl _ _ _ 83 _ (0,0) _ rfl hn2 Tryz.underlying83 rfl (by rw[HO.out.1];exact info83)) rfl ?_
 have hB3:Below w.heap.size w w2:=(hB.trans (hB1.mono hbz)).grown hg2 (by omega) (fun k hk=>by cases hk;omega)
 exact⟨_,rfl,HE.out.grown (away5 hn1 rfl) hg2,hB3⟩
set_option maxRecDepth 100000 in
set_option maxHeartbeats 2000000 in
theorem kind_ent (p:Int) (w:World):Calls Tryz.prog 146 #[.int .i64 p] w (EntPost {least:=1,most:=1,how:= [118],one:=some (.c 242 (.i 241 (.int .i64 p)))} w):=by
 go_enter Tryz.func146,Tryz.ntmps146
 go_wp2_with (refine wpList_alloc83 rfl rfl ?_)
 obtain⟨W,hW⟩:∃W,W=(w.alloc (.cells #[.int .i64 p] 3)).alloc (.cells fz 83):=⟨_,rfl⟩
 rw[←hW]
 have hB:Below w.heap.size w W:=by rw[hW];exact((Below.refl _ w).alloc (Nat.le_refl _) _).alloc (by simp) _
 have hn:World.blk W (w.heap.size+1) 83 fz:=by rw[hW];exact blk_new' _ _ _ _ (by simp)
 have hD:(Ds.i 241 (.int .i64 p)).At W (fnV 241 #[.pointer (some ⟨w.heap.size,0,none⟩)]):=⟨_,rfl,by rw[hW];exact bx_made (Below.refl (w.heap.size+1) _) (by omega)⟩
 clear hW
 refine(is_ent _ _ W hD).mono ?_
 rintro e w1 ⟨v1,rfl,hv1,hB1⟩
 obtain⟨cs,rfl,hcs⟩:=ent_form hv1
 have hn1:=hn.below hB1 hn.lt
 have hnl:=hn.lt
 have hbz:=hB.size
 have hb1:=hB1.size
 have HE:=Lib.hid hv1
 have HO:=Lib.hid hcs
 clear hv1 hcs
 go_wp2_with (refine wpList_store83 rfl rfl rfl rfl hn1 (by rfl) HO.out ?_;intro w2 hn2 hg2 hz2)
 refine bodyPost_ret (results_cell_row rfl _ _ _ 83 _ (0,0) _ rfl hn2 Tryz.underlying83 rfl (by rw[HO.out.1];exact info83)) rfl ?_
 have hB3:Below w.heap.size w w2:=(hB.trans (hB1.mono hbz)).grown hg2 (by omega) (fun k hk=>by cases hk;omega)
 exact⟨_,rfl,HE.out.grown (away5 hn1 rfl) hg2,hB3⟩
end Go.Proofs.YtmhfioimgllgeaaGreatDoor
namespace Go.Proofs.YtmhfioimgllgeaaGreatDoor
open Go Go.RowKit Go.Shelf Go.Maps
section
variable {ops : Array Oper} {rest : List Oper} {o o' : Oper} {a : Act} {w w0 : World} {Q : Exit → Act → World → Prop}
theorem wpList_fn {g:Nat} {xs:Array Operand} {ts:Array TypeId} {vs:Array Value} {R:Ending→World→Prop} (hgd:o.guard=none) (ho:o.op= .call {callee:= .value (.func g),args:=xs,argTypes:=ts})
 (he:∀args w,(callFunc g args).run Tryz.prog w= .ok (.enter g args) w) (hvs:xs.map a.eval=vs) (hc:Calls Tryz.prog g vs w R)
 (h:∀E w',R E w'→∃v,E= .returned v∧wpList Tryz.prog ops Q rest (a.put o.dst v) w'):wpList Tryz.prog ops Q (o :: rest) a w:=
 wpList_plain hgd fun K hK=>by
  have h1:=he vs w
  have h2:a.eval (.func g)= .func (.func g) #[] #[]:=rfl
  unfold Oper.wp execOp
  simp[ho,resolve,invoke,Deferred.ofValue,h2,hvs,h1]
  rw[Oper.upon_enter]
  refine hc.mono ?_
  intro E w' hE
  obtain⟨v,rfl,hw⟩:=h E w' hE
  exact hK _ _ hw
theorem wpList_insert {b n:Nat} {t:List UInt8→Option Ent} {e:Ent} {v:Value} {m x:Operand} {B:Nat} (k:List UInt8) (hgd:o.guard=none) (ho:o.op= .insert 74 m (.const (.string (mk k))) x)
 (hm:a.eval m= .map (some b)) (hx:a.eval x=v) (hT:Tb w b n t) (he:e.At w v) (hn:n<100) (hk:k.length≤100) (hB:Below B w0 w) (hb:B≤b)
 (h:∀w',Tb w' b (n+1) (put k e t)→Below B w0 w'→wpList Tryz.prog ops Q rest (a.put o.dst undef) w'):wpList Tryz.prog ops Q (o :: rest) a w:=
 wpList_plain hgd fun K hK=>by
  obtain⟨w',hrun,h1,hg⟩:=hT.insert (by unfold maxLen;omega) hk he
  have h2:a.eval (.const (.string (mk k)))= .string (mk k):=rfl
  unfold Oper.wp execOp
  simp[ho,hm,hx,h2,hrun]
  exact hK _ _ (h w' h1 (hB.grown hg (Nat.le_trans hb (Nat.le_of_lt hT.lt)) (fun j hj=>by cases hj;exact hb)))
/-- A maker's call, and what it made into the table. -/
theorem wpList_ent {b n g d:Nat} {t:List UInt8→Option Ent} {m:Operand} {B:Nat} {xs:Array Operand} {ts:Array TypeId} (k:List UInt8) {e:Ent} {vs:Array Value} (hc:Calls Tryz.prog g vs w (EntPost e w)) (hT:Tb w b n t) (hB:Below B w0 w) (hb:B≤b)
 (he:∀args w,(callFunc g args).run Tryz.prog w= .ok (.enter g args) w)
 (h:∀v w',Tb w' b (n+1) (put k e t)→Below B w0 w'→wpList Tryz.prog ops Q rest ((a.put (some d) v).put none undef) w')
 (hgd:o.guard=none:=by rfl) (hgd':o'.guard=none:=by rfl) (ho:o.op= .call {callee:= .value (.func g),args:=xs,argTypes:=ts}:=by rfl) (hd:o.dst=some d:=by rfl)
 (ho':o'.op= .insert 74 m (.const (.string (mk k))) (.tmp d):=by rfl) (hd':o'.dst=none:=by rfl) (hm:∀v,(a.put (some d) v).eval m= .map (some b):=by intro v;rfl) (hx:∀v,(a.put (some d) v).eval (.tmp d)=v:=by intro v;rfl)
 (hn:n<100:=by decide) (hk:k.length≤100:=by decide) (hvs:xs.map a.eval=vs:=by(simp only[List.map_toArray,List.map_cons,List.map_nil];rfl)):wpList Tryz.prog ops Q (o :: o' :: rest) a w:=by
 refine wpList_fn hgd ho he hvs hc ?_
 rintro E w1 ⟨v,rfl,hv,hB1⟩
 refine⟨v,rfl,?_⟩
 rw[hd]
 refine wpList_insert k hgd' ho' (hm v) (hx v) (hT.below hB1) hv hn hk (hB.trans (hB1.mono (Nat.le_trans hb (Nat.le_of_lt hT.lt)))) hb ?_
 intro w' h1 h2
 rw[hd']
 exact h v w' h1 h2
/-- An entry that is laid by itself, into the table. -/
theorem wpList_lit {b n g d:Nat} {t:List UInt8→Option Ent} {m:Operand} {B:Nat} {p q:Int} {s:List UInt8} (k:List UInt8) (hT:Tb w b n t) (hB:Below B w0 w) (hb:B≤b)
 (h:∀v w',Tb w' b (n+1) (put k {least:=p,most:=q,how:=s,one:=some (.f g)} t)→Below B w0 w'→wpList Tryz.prog ops Q rest ((a.put (some d) v).put none undef) w')
 (hgd:o.guard=none:=by rfl) (hgd':o'.guard=none:=by rfl) (ho:o.op= .build 83 #[(0,.const (.int .i64 p)),(1,.const (.int .i64 q)),(2,.const (.string (mk s))),(3,.func g)]:=by rfl) (hd:o.dst=some d:=by rfl)
 (ho':o'.op= .insert 74 m (.const (.string (mk k))) (.tmp d):=by rfl) (hd':o'.dst=none:=by rfl) (hm:∀v,(a.put (some d) v).eval m= .map (some b):=by intro v;rfl) (hx:∀v,(a.put (some d) v).eval (.tmp d)=v:=by intro v;rfl)
 (hn:n<100:=by decide) (hk:k.length≤100:=by decide):wpList Tryz.prog ops Q (o :: o' :: rest) a w:=by
 refine wpList_build1 hgd ho rfl rfl rfl rfl ?_
 rw[hd]
 refine wpList_insert (e:= {least:=p,most:=q,how:=s,one:=some (.f g)}) k hgd' ho' (hm _) (hx _) hT ⟨_,_,rfl,rfl,rfl⟩ hn hk hB hb ?_
 intro w' h1 h2
 rw[hd']
 exact h _ w' h1 h2
end
/-- A table is handed back. -/
def TbPost (T:List (List UInt8×Ent)) (w:World) (E:Ending) (w':World):Prop:=∃b,E= .returned (.map (some b))∧w.heap.size≤b∧Tb w' b T.length (look T)∧Below w.heap.size w w'
theorem ent117 :∀args w,(callFunc 117 args).run Tryz.prog w= .ok (.enter 117 args) w:=enters_of Tryz.func117 (by kernel_rfl) rfl
theorem ent131 :∀args w,(callFunc 131 args).run Tryz.prog w= .ok (.enter 131 args) w:=enters_of Tryz.func131 (by kernel_rfl) rfl
theorem ent146 :∀args w,(callFunc 146 args).run Tryz.prog w= .ok (.enter 146 args) w:=enters_of Tryz.func146 (by kernel_rfl) rfl
theorem ent147 :∀args w,(callFunc 147 args).run Tryz.prog w= .ok (.enter 147 args) w:=enters_of Tryz.func147 (by kernel_rfl) rfl
theorem ent149 :∀args w,(callFunc 149 args).run Tryz.prog w= .ok (.enter 149 args) w:=enters_of Tryz.func149 (by kernel_rfl) rfl
theorem ent152 :∀args w,(callFunc 152 args).run Tryz.prog w= .ok (.enter 152 args) w:=enters_of Tryz.func152 (by kernel_rfl) rfl
theorem ent156 :∀args w,(callFunc 156 args).run Tryz.prog w= .ok (.enter 156 args) w:=enters_of Tryz.func156 (by kernel_rfl) rfl
theorem ent163 :∀args w,(callFunc 163 args).run Tryz.prog w= .ok (.enter 163 args) w:=enters_of Tryz.func163 (by kernel_rfl) rfl
theorem ent173 :∀args w,(callFunc 173 args).run Tryz.prog w= .ok (.enter 173 args) w:=enters_of Tryz.func173 (by kernel_rfl) rfl
theorem ent177 :∀args w,(callFunc 177 args).run Tryz.prog w= .ok (.enter 177 args) w:=enters_of Tryz.func177 (by kernel_rfl) rfl
theorem ent180 :∀args w,(callFunc 180 args).run Tryz.prog w= .ok (.enter 180 args) w:=enters_of Tryz.func180 (by kernel_rfl) rfl
theorem ent184 :∀args w,(callFunc 184 args).run Tryz.prog w= .ok (.enter 184 args) w:=enters_of Tryz.func184 (by kernel_rfl) rfl
theorem ent194 :∀args w,(callFunc 194 args).run Tryz.prog w= .ok (.enter 194 args) w:=enters_of Tryz.func194 (by kernel_rfl) rfl
theorem ent200 :∀args w,(callFunc 200 args).run Tryz.prog w= .ok (.enter 200 args) w:=enters_of Tryz.func200 (by kernel_rfl) rfl
section
variable {ops : Array Oper} {rest : List Oper} {o : Oper} {a : Act} {w : World} {Q : Exit → Act → World → Prop}
theorem wpList_tab (hgd:o.guard=none) (ho:o.op= .makeMap 74 none) (h:wpList Tryz.prog ops Q rest (a.put o.dst (.map (some w.heap.size))) (w.alloc (.map #[] 0))):wpList Tryz.prog ops Q (o :: rest) a w:=
 wpList_plain hgd fun K hK=>by
  unfold Oper.wp execOp
  simp[ho,Instr.makeMap,newObj]
  exact hK _ _ h
theorem wpList_mkfn {g:Nat} {x:Operand} {p:Value} (hgd:o.guard=none) (ho:o.op= .makeFunc (.func g) #[] #[x]) (hx:a.eval x=p) (h:wpList Tryz.prog ops Q rest (a.put o.dst (fnV g #[p])) w):wpList Tryz.prog ops Q (o :: rest) a w:=
 wpList_plain hgd fun K hK=>by
  unfold Oper.wp execOp
  simp[ho,hx,Instr.makeFunc]
  exact hK _ _ h
end
def tab84 :List (List UInt8×Ent):= [
 ([67,72,65,82],{least:=1,most:=1,how:= [110],one:=some (.c 236 (.f 140))}),
 ([73,83,79,68,68],{least:=1,most:=1,how:= [110],one:=some (.c 236 (.f 139))}),
 ([73,83,69,86,69,78],{least:=1,most:=1,how:= [110],one:=some (.c 236 (.f 136))}),
 ([70,65,67,84],{least:=1,most:=1,how:= [110],one:=some (.c 236 (.f 135))}),
 ([81,85,79,84,73,69,78,84],{least:=2,most:=2,how:= [110,110],one:=some (.c 236 (.c 238 (.f 134)))}),
 ([77,79,68],{least:=2,most:=2,how:= [110,110],one:=some (.c 236 (.c 238 (.f 132)))}),
 ([80,79,87,69,82],{least:=2,most:=2,how:= [110,110],one:=some (.c 236 (.f 130))}),
 ([82,79,85,78,68],{least:=1,most:=2,how:= [110,110],one:=some (.c 236 (.f 127))}),
 ([86,65,76,85,69],{least:=1,most:=1,how:= [110],one:=some (.c 236 (.f 126))}),
 ([84,82,85,78,67],{least:=1,most:=1,how:= [110],one:=some (.c 236 (.f 124))}),
 ([73,78,84],{least:=1,most:=1,how:= [110],one:=some (.c 236 (.f 122))}),
 ([83,73,71,78],{least:=1,most:=1,how:= [110],one:=some (.c 236 (.f 120))}),
 ([65,66,83],{least:=1,most:=1,how:= [110],one:=some (.c 236 (.f 118))})]
set_option maxRecDepth 100000 in
set_option maxHeartbeats 8000000 in
theorem tab84_any (w:World):Calls Tryz.prog 84 #[] w (TbPost (tab84) w):=by
 go_enter Tryz.func84,Tryz.ntmps84
 go_upto_region 1 with fail
 go_step
 refine wpList_tab rfl rfl ?_
 obtain⟨W,hW⟩:∃W,W=w.alloc (.map #[] 0):=⟨_,rfl⟩
 have hb:w.heap.size≤w.heap.size:=Nat.le_refl _
 have hB:Below w.heap.size w W:=by rw[hW];exact(Below.refl _ w).alloc (Nat.le_refl _) _
 have hT:Tb W w.heap.size 0 (look []):=by rw[hW];exact tb_new w
 rw[←hW]
 clear hW
 refine wpList_ent [65,66,83] (nums_ent 1 1 (.f 118) _ _ rfl (by decide)) hT hB hb ent117 ?_
 clear hT hB
 intro v W hT hB
 simp only[Act.put,List.setIfInBounds_toArray,List.set_cons_zero,List.set_cons_succ]
 refine wpList_ent [83,73,71,78] (nums_ent 1 1 (.f 120) _ _ rfl (by decide)) hT hB hb ent117 ?_
 clear hT hB
 intro v W hT hB
 simp only[Act.put,List.setIfInBounds_toArray,List.set_cons_zero,List.set_cons_succ]
 refine wpList_ent [73,78,84] (nums_ent 1 1 (.f 122) _ _ rfl (by decide)) hT hB hb ent117 ?_
 clear hT hB
 intro v W hT hB
 simp only[Act.put,List.setIfInBounds_toArray,List.set_cons_zero,List.set_cons_succ]
 refine wpList_ent [84,82,85,78,67] (nums_ent 1 1 (.f 124) _ _ rfl (by decide)) hT hB hb ent117 ?_
 clear hT hB
 intro v W hT hB
 simp only[Act.put,List.setIfInBounds_toArray,List.set_cons_zero,List.set_cons_succ]
 refine wpList_ent [86,65,76,85,69] (nums_ent 1 1 (.f 126) _ _ rfl (by decide)) hT hB hb ent117 ?_
 clear hT hB
 intro v W hT hB
 simp only[Act.put,List.setIfInBounds_toArray,List.set_cons_zero,List.set_cons_succ]
 refine wpList_ent [82,79,85,78,68] (nums_ent 1 2 (.f 127) _ _ rfl (by decide)) hT hB hb ent117 ?_
 clear hT hB
 intro v W hT hB
 simp only[Act.put,List.setIfInBounds_toArray,List.set_cons_zero,List.set_cons_succ]
 refine wpList_ent [80,79,87,69,82] (nums_ent 2 2 (.f 130) _ _ rfl (by decide)) hT hB hb ent117 ?_
 clear hT hB
 intro v W hT hB
 simp only[Act.put,List.setIfInBounds_toArray,List.set_cons_zero,List.set_cons_succ]
 refine wpList_ent [77,79,68] (div_ent (.f 132) _ _ rfl) hT hB hb ent131 ?_
 clear hT hB
 intro v W hT hB
 simp only[Act.put,List.setIfInBounds_toArray,List.set_cons_zero,List.set_cons_succ]
 refine wpList_ent [81,85,79,84,73,69,78,84] (div_ent (.f 134) _ _ rfl) hT hB hb ent131 ?_
 clear hT hB
 intro v W hT hB
 simp only[Act.put,List.setIfInBounds_toArray,List.set_cons_zero,List.set_cons_succ]
 refine wpList_ent [70,65,67,84] (nums_ent 1 1 (.f 135) _ _ rfl (by decide)) hT hB hb ent117 ?_
 clear hT hB
 intro v W hT hB
 simp only[Act.put,List.setIfInBounds_toArray,List.set_cons_zero,List.set_cons_succ]
 refine wpList_ent [73,83,69,86,69,78] (nums_ent 1 1 (.f 136) _ _ rfl (by decide)) hT hB hb ent117 ?_
 clear hT hB
 intro v W hT hB
 simp only[Act.put,List.setIfInBounds_toArray,List.set_cons_zero,List.set_cons_succ]
 refine wpList_ent [73,83,79,68,68] (nums_ent 1 1 (.f 139) _ _ rfl (by decide)) hT hB hb ent117 ?_
 clear hT hB
 intro v W hT hB
 simp only[Act.put,List.setIfInBounds_toArray,List.set_cons_zero,List.set_cons_succ]
 refine wpList_ent [67,72,65,82] (nums_ent 1 1 (.f 140) _ _ rfl (by decide)) hT hB hb ent117 ?_
 clear hT hB
 intro v W hT hB
 simp only[Act.put,List.setIfInBounds_toArray,List.set_cons_zero,List.set_cons_succ]
 go_wp2_with fail
 go_ret
 exact⟨_,rfl,hb,hT,hB⟩
def tab85 :List (List UInt8×Ent):= [
 ([67,79,68,69],{least:=1,most:=1,how:= [116],one:=some (.c 243 (.f 162))}),
 ([69,88,65,67,84],{least:=2,most:=2,how:= [116,116],one:=some (.c 243 (.f 161))}),
 ([83,85,66,83,84,73,84,85,84,69],{least:=3,most:=3,how:= [116,116,116],one:=some (.c 243 (.f 160))}),
 ([70,73,78,68],{least:=2,most:=3,how:= [116,116,110],one:=some (.c 243 (.f 159))}),
 ([82,69,80,84],{least:=2,most:=2,how:= [116,110],one:=some (.c 243 (.f 158))}),
 ([84,82,73,77],{least:=1,most:=1,how:= [116],one:=some (.c 243 (.f 157))}),
 ([76,79,87,69,82],{least:=1,most:=1,how:= [116],one:=some (.c 243 (.j 247 (.int .i32 65) (.int .i32 97)))}),
 ([85,80,80,69,82],{least:=1,most:=1,how:= [116],one:=some (.c 243 (.j 247 (.int .i32 97) (.int .i32 65)))}),
 ([77,73,68],{least:=3,most:=3,how:= [116,110,110],one:=some (.c 243 (.f 155))}),
 ([82,73,71,72,84],{least:=1,most:=2,how:= [116,110],one:=some (.c 243 (.c 244 (.f 154)))}),
 ([76,69,70,84],{least:=1,most:=2,how:= [116,110],one:=some (.c 243 (.c 244 (.f 153)))}),
 ([76,69,78],{least:=1,most:=1,how:= [116],one:=some (.c 243 (.f 150))}),
 ([73,83,78,65],{least:=1,most:=1,how:= [118],one:=some (.c 242 (.f 148))}),
 ([73,83,66,76,65,78,75],{least:=1,most:=1,how:= [118],one:=some (.c 242 (.i 241 (.int .i64 0)))}),
 ([73,83,69,82,82,79,82],{least:=1,most:=1,how:= [118],one:=some (.c 242 (.i 241 (.int .i64 4)))}),
 ([73,83,76,79,71,73,67,65,76],{least:=1,most:=1,how:= [118],one:=some (.c 242 (.i 241 (.int .i64 3)))}),
 ([73,83,84,69,88,84],{least:=1,most:=1,how:= [118],one:=some (.c 242 (.i 241 (.int .i64 2)))}),
 ([73,83,78,85,77,66,69,82],{least:=1,most:=1,how:= [118],one:=some (.c 242 (.i 241 (.int .i64 1)))}),
 ([73,70,78,65],{least:=2,most:=2,how:= [118,118],one:=some (.f 145)}),
 ([73,70,69,82,82,79,82],{least:=2,most:=2,how:= [118,118],one:=some (.f 143)}),
 ([73,70],{least:=2,most:=3,how:= [98,118,118],one:=some (.f 142)}),
 ([78,79,84],{least:=1,most:=1,how:= [98],one:=some (.f 141)})]
set_option maxRecDepth 100000 in
set_option maxHeartbeats 8000000 in
theorem tab85_any (w:World):Calls Tryz.prog 85 #[] w (TbPost (tab85) w):=by
 go_enter Tryz.func85,Tryz.ntmps85
 go_upto_region 1 with fail
 go_step
 refine wpList_tab rfl rfl ?_
 obtain⟨W,hW⟩:∃W,W=w.alloc (.map #[] 0):=⟨_,rfl⟩
 have hb:w.heap.size≤w.heap.size:=Nat.le_refl _
 have hB:Below w.heap.size w W:=by rw[hW];exact(Below.refl _ w).alloc (Nat.le_refl _) _
 have hT:Tb W w.heap.size 0 (look []):=by rw[hW];exact tb_new w
 rw[←hW]
 clear hW
 refine wpList_lit [78,79,84] hT hB hb ?_
 clear hT hB
 intro v W hT hB
 simp only[Act.put,List.setIfInBounds_toArray,List.set_cons_zero,List.set_cons_succ]
 refine wpList_lit [73,70] hT hB hb ?_
 clear hT hB
 intro v W hT hB
 simp only[Act.put,List.setIfInBounds_toArray,List.set_cons_zero,List.set_cons_succ]
 refine wpList_lit [73,70,69,82,82,79,82] hT hB hb ?_
 clear hT hB
 intro v W hT hB
 simp only[Act.put,List.setIfInBounds_toArray,List.set_cons_zero,List.set_cons_succ]
 refine wpList_lit [73,70,78,65] hT hB hb ?_
 clear hT hB
 intro v W hT hB
 simp only[Act.put,List.setIfInBounds_toArray,List.set_cons_zero,List.set_cons_succ]
 refine wpList_ent [73,83,78,85,77,66,69,82] (kind_ent 1 _) hT hB hb ent146 ?_
 clear hT hB
 intro v W hT hB
 simp only[Act.put,List.setIfInBounds_toArray,List.set_cons_zero,List.set_cons_succ]
 refine wpList_ent [73,83,84,69,88,84] (kind_ent 2 _) hT hB hb ent146 ?_
 clear hT hB
 intro v W hT hB
 simp only[Act.put,List.setIfInBounds_toArray,List.set_cons_zero,List.set_cons_succ]
 refine wpList_ent [73,83,76,79,71,73,67,65,76] (kind_ent 3 _) hT hB hb ent146 ?_
 clear hT hB
 intro v W hT hB
 simp only[Act.put,List.setIfInBounds_toArray,List.set_cons_zero,List.set_cons_succ]
 refine wpList_ent [73,83,69,82,82,79,82] (kind_ent 4 _) hT hB hb ent146 ?_
 clear hT hB
 intro v W hT hB
 simp only[Act.put,List.setIfInBounds_toArray,List.set_cons_zero,List.set_cons_succ]
 refine wpList_ent [73,83,66,76,65,78,75] (kind_ent 0 _) hT hB hb ent146 ?_
 clear hT hB
 intro v W hT hB
 simp only[Act.put,List.setIfInBounds_toArray,List.set_cons_zero,List.set_cons_succ]
 refine wpList_ent [73,83,78,65] (is_ent (.f 148) _ _ rfl) hT hB hb ent147 ?_
 clear hT hB
 intro v W hT hB
 simp only[Act.put,List.setIfInBounds_toArray,List.set_cons_zero,List.set_cons_succ]
 refine wpList_ent [76,69,78] (texts_ent 1 1 [116] (.f 150) _ _ rfl) hT hB hb ent149 ?_
 clear hT hB
 intro v W hT hB
 simp only[Act.put,List.setIfInBounds_toArray,List.set_cons_zero,List.set_cons_succ]
 refine wpList_ent [76,69,70,84] (part_ent (.f 153) _ _ rfl) hT hB hb ent152 ?_
 clear hT hB
 intro v W hT hB
 simp only[Act.put,List.setIfInBounds_toArray,List.set_cons_zero,List.set_cons_succ]
 refine wpList_ent [82,73,71,72,84] (part_ent (.f 154) _ _ rfl) hT hB hb ent152 ?_
 clear hT hB
 intro v W hT hB
 simp only[Act.put,List.setIfInBounds_toArray,List.set_cons_zero,List.set_cons_succ]
 refine wpList_ent [77,73,68] (texts_ent 3 3 [116,110,110] (.f 155) _ _ rfl) hT hB hb ent149 ?_
 clear hT hB
 intro v W hT hB
 simp only[Act.put,List.setIfInBounds_toArray,List.set_cons_zero,List.set_cons_succ]
 refine wpList_ent [85,80,80,69,82] (cased_ent 97 65 _) hT hB hb ent156 ?_
 clear hT hB
 intro v W hT hB
 simp only[Act.put,List.setIfInBounds_toArray,List.set_cons_zero,List.set_cons_succ]
 refine wpList_ent [76,79,87,69,82] (cased_ent 65 97 _) hT hB hb ent156 ?_
 clear hT hB
 intro v W hT hB
 simp only[Act.put,List.setIfInBounds_toArray,List.set_cons_zero,List.set_cons_succ]
 refine wpList_ent [84,82,73,77] (texts_ent 1 1 [116] (.f 157) _ _ rfl) hT hB hb ent149 ?_
 clear hT hB
 intro v W hT hB
 simp only[Act.put,List.setIfInBounds_toArray,List.set_cons_zero,List.set_cons_succ]
 refine wpList_ent [82,69,80,84] (texts_ent 2 2 [116,110] (.f 158) _ _ rfl) hT hB hb ent149 ?_
 clear hT hB
 intro v W hT hB
 simp only[Act.put,List.setIfInBounds_toArray,List.set_cons_zero,List.set_cons_succ]
 refine wpList_ent [70,73,78,68] (texts_ent 2 3 [116,116,110] (.f 159) _ _ rfl) hT hB hb ent149 ?_
 clear hT hB
 intro v W hT hB
 simp only[Act.put,List.setIfInBounds_toArray,List.set_cons_zero,List.set_cons_succ]
 refine wpList_ent [83,85,66,83,84,73,84,85,84,69] (texts_ent 3 3 [116,116,116] (.f 160) _ _ rfl) hT hB hb ent149 ?_
 clear hT hB
 intro v W hT hB
 simp only[Act.put,List.setIfInBounds_toArray,List.set_cons_zero,List.set_cons_succ]
 refine wpList_ent [69,88,65,67,84] (texts_ent 2 2 [116,116] (.f 161) _ _ rfl) hT hB hb ent149 ?_
 clear hT hB
 intro v W hT hB
 simp only[Act.put,List.setIfInBounds_toArray,List.set_cons_zero,List.set_cons_succ]
 refine wpList_ent [67,79,68,69] (texts_ent 1 1 [116] (.f 162) _ _ rfl) hT hB hb ent149 ?_
 clear hT hB
 intro v W hT hB
 simp only[Act.put,List.setIfInBounds_toArray,List.set_cons_zero,List.set_cons_succ]
 go_wp2_with fail
 go_ret
 exact⟨_,rfl,hb,hT,hB⟩
def tab86 :List (List UInt8×Ent):= [
 ([77,69,68,73,65,78],{least:=1,most:=20,all:=some (.c 253 (.f 172))}),
 ([65,86,69,82,65,71,69],{least:=1,most:=20,all:=some (.c 253 (.f 170))}),
 ([77,65,88],{least:=1,most:=20,all:=some (.c 253 (.f 169))}),
 ([77,73,78],{least:=1,most:=20,all:=some (.c 253 (.f 167))}),
 ([80,82,79,68,85,67,84],{least:=1,most:=20,all:=some (.c 253 (.f 166))}),
 ([83,85,77],{least:=1,most:=20,all:=some (.c 253 (.f 164))})]
set_option maxRecDepth 100000 in
set_option maxHeartbeats 8000000 in
theorem tab86_any (w:World):Calls Tryz.prog 86 #[] w (TbPost (tab86) w):=by
 go_enter Tryz.func86,Tryz.ntmps86
 go_upto_region 1 with fail
 go_step
 refine wpList_tab rfl rfl ?_
 obtain⟨W,hW⟩:∃W,W=w.alloc (.map #[] 0):=⟨_,rfl⟩
 have hb:w.heap.size≤w.heap.size:=Nat.le_refl _
 have hB:Below w.heap.size w W:=by rw[hW];exact(Below.refl _ w).alloc (Nat.le_refl _) _
 have hT:Tb W w.heap.size 0 (look []):=by rw[hW];exact tb_new w
 rw[←hW]
 clear hW
 refine wpList_ent [83,85,77] (gathered_ent (.f 164) _ _ rfl) hT hB hb ent163 ?_
 clear hT hB
 intro v W hT hB
 simp only[Act.put,List.setIfInBounds_toArray,List.set_cons_zero,List.set_cons_succ]
 refine wpList_ent [80,82,79,68,85,67,84] (gathered_ent (.f 166) _ _ rfl) hT hB hb ent163 ?_
 clear hT hB
 intro v W hT hB
 simp only[Act.put,List.setIfInBounds_toArray,List.set_cons_zero,List.set_cons_succ]
 refine wpList_ent [77,73,78] (gathered_ent (.f 167) _ _ rfl) hT hB hb ent163 ?_
 clear hT hB
 intro v W hT hB
 simp only[Act.put,List.setIfInBounds_toArray,List.set_cons_zero,List.set_cons_succ]
 refine wpList_ent [77,65,88] (gathered_ent (.f 169) _ _ rfl) hT hB hb ent163 ?_
 clear hT hB
 intro v W hT hB
 simp only[Act.put,List.setIfInBounds_toArray,List.set_cons_zero,List.set_cons_succ]
 refine wpList_ent [65,86,69,82,65,71,69] (gathered_ent (.f 170) _ _ rfl) hT hB hb ent163 ?_
 clear hT hB
 intro v W hT hB
 simp only[Act.put,List.setIfInBounds_toArray,List.set_cons_zero,List.set_cons_succ]
 refine wpList_ent [77,69,68,73,65,78] (gathered_ent (.f 172) _ _ rfl) hT hB hb ent163 ?_
 clear hT hB
 intro v W hT hB
 simp only[Act.put,List.setIfInBounds_toArray,List.set_cons_zero,List.set_cons_succ]
 go_wp2_with fail
 go_ret
 exact⟨_,rfl,hb,hT,hB⟩
def tab87 (M E:Int):List (List UInt8×Ent):= [
 ([83,85,77,73,70],{least:=2,most:=3,all:=some (.f 208)}),
 ([67,79,85,78,84,73,70],{least:=2,most:=2,all:=some (.f 207)}),
 ([86,76,79,79,75,85,80],{least:=3,most:=3,all:=some (.c 262 (.f 206))}),
 ([70,73,76,84,69,82],{least:=2,most:=3,all:=some (.c 262 (.f 205))}),
 ([83,79,82,84],{least:=1,most:=2,all:=some (.c 262 (.f 204))}),
 ([83,69,81,85,69,78,67,69],{least:=1,most:=4,all:=some (.f 203)}),
 ([85,78,73,81,85,69],{least:=1,most:=1,all:=some (.c 266 (.f 202))}),
 ([84,82,65,78,83,80,79,83,69],{least:=1,most:=1,all:=some (.c 266 (.f 201))}),
 ([77,65,84,67,72],{least:=2,most:=2,all:=some (.c 262 (.f 199))}),
 ([73,78,68,69,88],{least:=2,most:=3,all:=some (.c 262 (.f 198))}),
 ([67,79,76,85,77,78,83],{least:=1,most:=1,all:=some (.c 262 (.f 197))}),
 ([82,79,87,83],{least:=1,most:=1,all:=some (.c 262 (.f 195))}),
 ([84,69,88,84,74,79,73,78],{least:=3,most:=20,all:=some (.f 193)}),
 ([67,79,78,67,65,84],{least:=1,most:=20,all:=some (.f 191)}),
 ([84,89,80,69],{least:=1,most:=1,all:=some (.f 190)}),
 ([67,72,79,79,83,69],{least:=2,most:=20,all:=some (.f 189)}),
 ([78,79,87],{least:=0,most:=0,all:=some (.n 188 M E)}),
 ([78,65],{least:=0,most:=0,all:=some (.f 187)}),
 ([70,65,76,83,69],{least:=0,most:=0,all:=some (.f 186)}),
 ([84,82,85,69],{least:=0,most:=0,all:=some (.f 185)}),
 ([88,79,82],{least:=1,most:=20,all:=some (.c 261 (.f 183))}),
 ([79,82],{least:=1,most:=20,all:=some (.c 261 (.f 182))}),
 ([65,78,68],{least:=1,most:=20,all:=some (.c 261 (.f 181))}),
 ([83,77,65,76,76],{least:=2,most:=2,all:=some (.c 259 (.f 179))}),
 ([76,65,82,71,69],{least:=2,most:=2,all:=some (.c 259 (.f 178))}),
 ([67,79,85,78,84,66,76,65,78,75],{least:=1,most:=20,all:=some (.c 257 (.f 176))}),
 ([67,79,85,78,84,65],{least:=1,most:=20,all:=some (.c 257 (.f 175))}),
 ([67,79,85,78,84],{least:=1,most:=20,all:=some (.c 257 (.f 174))})]
set_option maxRecDepth 100000 in
set_option maxHeartbeats 8000000 in
theorem tab87_any (M E:Int) (w:World):Calls Tryz.prog 87 #[.agg #[.int .i64 M,.int .i64 E]] w (TbPost (tab87 M E) w):=by
 go_enter Tryz.func87,Tryz.ntmps87
 go_upto_region 1 with fail
 go_step
 refine wpList_tab rfl rfl ?_
 obtain⟨w0,hw0⟩:∃w0,w0=w.alloc (.cells #[.int .i64 M,.int .i64 E] 34):=⟨_,rfl⟩
 rw[←hw0]
 have hB0:Below w.heap.size w w0:=by rw[hw0];exact(Below.refl _ w).alloc (Nat.le_refl _) _
 have hN:(Ds.n 188 M E).At w0 (fnV 188 #[.pointer (some ⟨w.heap.size,0,none⟩)]):=⟨_,rfl,by rw[hw0];exact World.dec_new w M E _ rfl⟩
 clear hw0
 obtain⟨W,hW⟩:∃W,W=w0.alloc (.map #[] 0):=⟨_,rfl⟩
 have hb:w0.heap.size≤w0.heap.size:=Nat.le_refl _
 have hB:Below w0.heap.size w0 W:=by rw[hW];exact(Below.refl _ w0).alloc (Nat.le_refl _) _
 have hT:Tb W w0.heap.size 0 (look []):=by rw[hW];exact tb_new w0
 rw[←hW]
 clear hW
 refine wpList_ent [67,79,85,78,84] (counter_ent (.f 174) _ _ rfl) hT hB hb ent173 ?_
 clear hT hB
 intro v W hT hB
 simp only[Act.put,List.setIfInBounds_toArray,List.set_cons_zero,List.set_cons_succ]
 refine wpList_ent [67,79,85,78,84,65] (counter_ent (.f 175) _ _ rfl) hT hB hb ent173 ?_
 clear hT hB
 intro v W hT hB
 simp only[Act.put,List.setIfInBounds_toArray,List.set_cons_zero,List.set_cons_succ]
 refine wpList_ent [67,79,85,78,84,66,76,65,78,75] (counter_ent (.f 176) _ _ rfl) hT hB hb ent173 ?_
 clear hT hB
 intro v W hT hB
 simp only[Act.put,List.setIfInBounds_toArray,List.set_cons_zero,List.set_cons_succ]
 refine wpList_ent [76,65,82,71,69] (ranked_ent (.f 178) _ _ rfl) hT hB hb ent177 ?_
 clear hT hB
 intro v W hT hB
 simp only[Act.put,List.setIfInBounds_toArray,List.set_cons_zero,List.set_cons_succ]
 refine wpList_ent [83,77,65,76,76] (ranked_ent (.f 179) _ _ rfl) hT hB hb ent177 ?_
 clear hT hB
 intro v W hT hB
 simp only[Act.put,List.setIfInBounds_toArray,List.set_cons_zero,List.set_cons_succ]
 refine wpList_ent [65,78,68] (logic_ent (.f 181) _ _ rfl) hT hB hb ent180 ?_
 clear hT hB
 intro v W hT hB
 simp only[Act.put,List.setIfInBounds_toArray,List.set_cons_zero,List.set_cons_succ]
 refine wpList_ent [79,82] (logic_ent (.f 182) _ _ rfl) hT hB hb ent180 ?_
 clear hT hB
 intro v W hT hB
 simp only[Act.put,List.setIfInBounds_toArray,List.set_cons_zero,List.set_cons_succ]
 refine wpList_ent [88,79,82] (logic_ent (.f 183) _ _ rfl) hT hB hb ent180 ?_
 clear hT hB
 intro v W hT hB
 simp only[Act.put,List.setIfInBounds_toArray,List.set_cons_zero,List.set_cons_succ]
 refine wpList_ent [84,82,85,69] (of_ent 0 0 (.f 185) _ _ rfl) hT hB hb ent184 ?_
 clear hT hB
 intro v W hT hB
 simp only[Act.put,List.setIfInBounds_toArray,List.set_cons_zero,List.set_cons_succ]
 refine wpList_ent [70,65,76,83,69] (of_ent 0 0 (.f 186) _ _ rfl) hT hB hb ent184 ?_
 clear hT hB
 intro v W hT hB
 simp only[Act.put,List.setIfInBounds_toArray,List.set_cons_zero,List.set_cons_succ]
 refine wpList_ent [78,65] (of_ent 0 0 (.f 187) _ _ rfl) hT hB hb ent184 ?_
 clear hT hB
 intro v W hT hB
 simp only[Act.put,List.setIfInBounds_toArray,List.set_cons_zero,List.set_cons_succ]
 refine wpList_mkfn rfl rfl (by rfl) ?_
 refine wpList_ent [78,79,87] (of_ent 0 0 (.n 188 M E) _ _ (Ds.At.below hB hN)) hT hB hb ent184 ?_
 clear hT hB
 intro v W hT hB
 simp only[Act.put,List.setIfInBounds_toArray,List.set_cons_zero,List.set_cons_succ]
 refine wpList_ent [67,72,79,79,83,69] (of_ent 2 20 (.f 189) _ _ rfl) hT hB hb ent184 ?_
 clear hT hB
 intro v W hT hB
 simp only[Act.put,List.setIfInBounds_toArray,List.set_cons_zero,List.set_cons_succ]
 refine wpList_ent [84,89,80,69] (of_ent 1 1 (.f 190) _ _ rfl) hT hB hb ent184 ?_
 clear hT hB
 intro v W hT hB
 simp only[Act.put,List.setIfInBounds_toArray,List.set_cons_zero,List.set_cons_succ]
 refine wpList_ent [67,79,78,67,65,84] (of_ent 1 20 (.f 191) _ _ rfl) hT hB hb ent184 ?_
 clear hT hB
 intro v W hT hB
 simp only[Act.put,List.setIfInBounds_toArray,List.set_cons_zero,List.set_cons_succ]
 refine wpList_ent [84,69,88,84,74,79,73,78] (of_ent 3 20 (.f 193) _ _ rfl) hT hB hb ent184 ?_
 clear hT hB
 intro v W hT hB
 simp only[Act.put,List.setIfInBounds_toArray,List.set_cons_zero,List.set_cons_succ]
 refine wpList_ent [82,79,87,83] (carry_ent 1 1 (.f 195) _ _ rfl) hT hB hb ent194 ?_
 clear hT hB
 intro v W hT hB
 simp only[Act.put,List.setIfInBounds_toArray,List.set_cons_zero,List.set_cons_succ]
 refine wpList_ent [67,79,76,85,77,78,83] (carry_ent 1 1 (.f 197) _ _ rfl) hT hB hb ent194 ?_
 clear hT hB
 intro v W hT hB
 simp only[Act.put,List.setIfInBounds_toArray,List.set_cons_zero,List.set_cons_succ]
 refine wpList_ent [73,78,68,69,88] (carry_ent 2 3 (.f 198) _ _ rfl) hT hB hb ent194 ?_
 clear hT hB
 intro v W hT hB
 simp only[Act.put,List.setIfInBounds_toArray,List.set_cons_zero,List.set_cons_succ]
 refine wpList_ent [77,65,84,67,72] (carry_ent 2 2 (.f 199) _ _ rfl) hT hB hb ent194 ?_
 clear hT hB
 intro v W hT hB
 simp only[Act.put,List.setIfInBounds_toArray,List.set_cons_zero,List.set_cons_succ]
 refine wpList_ent [84,82,65,78,83,80,79,83,69] (shaped_ent (.f 201) _ _ rfl) hT hB hb ent200 ?_
 clear hT hB
 intro v W hT hB
 simp only[Act.put,List.setIfInBounds_toArray,List.set_cons_zero,List.set_cons_succ]
 refine wpList_ent [85,78,73,81,85,69] (shaped_ent (.f 202) _ _ rfl) hT hB hb ent200 ?_
 clear hT hB
 intro v W hT hB
 simp only[Act.put,List.setIfInBounds_toArray,List.set_cons_zero,List.set_cons_succ]
 refine wpList_ent [83,69,81,85,69,78,67,69] (of_ent 1 4 (.f 203) _ _ rfl) hT hB hb ent184 ?_
 clear hT hB
 intro v W hT hB
 simp only[Act.put,List.setIfInBounds_toArray,List.set_cons_zero,List.set_cons_succ]
 refine wpList_ent [83,79,82,84] (carry_ent 1 2 (.f 204) _ _ rfl) hT hB hb ent194 ?_
 clear hT hB
 intro v W hT hB
 simp only[Act.put,List.setIfInBounds_toArray,List.set_cons_zero,List.set_cons_succ]
 refine wpList_ent [70,73,76,84,69,82] (carry_ent 2 3 (.f 205) _ _ rfl) hT hB hb ent194 ?_
 clear hT hB
 intro v W hT hB
 simp only[Act.put,List.setIfInBounds_toArray,List.set_cons_zero,List.set_cons_succ]
 refine wpList_ent [86,76,79,79,75,85,80] (carry_ent 3 3 (.f 206) _ _ rfl) hT hB hb ent194 ?_
 clear hT hB
 intro v W hT hB
 simp only[Act.put,List.setIfInBounds_toArray,List.set_cons_zero,List.set_cons_succ]
 refine wpList_ent [67,79,85,78,84,73,70] (of_ent 2 2 (.f 207) _ _ rfl) hT hB hb ent184 ?_
 clear hT hB
 intro v W hT hB
 simp only[Act.put,List.setIfInBounds_toArray,List.set_cons_zero,List.set_cons_succ]
 refine wpList_ent [83,85,77,73,70] (of_ent 2 3 (.f 208) _ _ rfl) hT hB hb ent184 ?_
 clear hT hB
 intro v W hT hB
 simp only[Act.put,List.setIfInBounds_toArray,List.set_cons_zero,List.set_cons_succ]
 go_wp2_with fail
 go_ret
 exact⟨_,rfl,hB0.size,hT,hB0.trans (hB.mono hB0.size)⟩
end Go.Proofs.YtmhfioimgllgeaaGreatDoor
namespace Go.Proofs.YtmhfioimgllgeaaGreatDoor
open Go Go.RowKit Go.Shelf Go.Maps
section
variable {ops : Array Oper} {rest : List Oper} {o : Oper} {a : Act} {w : World} {Q : Exit → Act → World → Prop}
theorem wpList_load83 {x:Operand} {g:Nat} {cs:Array Value} (hgd:o.guard=none) (ho:o.op= .load 83 x) (hx:a.eval x= .pointer (some ⟨g,0,none⟩)) (hn:World.blk w g 83 cs) (hs:cs.size=5)
 (h:wpList Tryz.prog ops Q rest (a.put o.dst (.agg cs)) w):wpList Tryz.prog ops Q (o :: rest) a w:=
 wpList_load_row hgd 83 x ho g hx 83 _ (0,0) _ hn Tryz.underlying83 rfl (by rw[hs];exact info83) h
theorem wpList_upd {b n:Nat} {D:DataW Value} {m x y:Operand} {s:ByteArray} {v:Value} (hgd:o.guard=none) (ho:o.op= .mapUpdate 74 m x y)
 (hm:a.eval m= .map (some b)) (hx:a.eval x= .string s) (hy:a.eval y=v) (hs:s.size≤maxLen) (hT:w.ownsMap Tryz.prog 9 RV b n D) (hn:n<maxLen)
 (h:∀w',w'.ownsMap Tryz.prog 9 RV b (n+1) (D.put (.string s.data.toList) (.held v))→w.grownBy w' (some b)→wpList Tryz.prog ops Q rest (a.put o.dst undef) w'):wpList Tryz.prog ops Q (o :: rest) a w:=
 wpList_plain hgd fun K hK=>by
  obtain⟨w',hrun,h3,hg⟩:=hT.update keyed9 Tryz.underlying74 hn (Go.WideMaps.keyOf_string_mk Tryz.underlying9 hs) (val:=v) (d:= .held v) (ps:= []) rfl
  unfold Oper.wp execOp
  simp[ho,hm,hx,hy,hrun]
  exact hK _ _ (h w' h3 hg)
end
/-- What a key has, while some of the entries are still to come. -/
def mixT (ts td:List UInt8→Option Ent) (left:Lit→Bool):List UInt8→Option Ent:=fun x=>if left (.string x)=true then td x else(ts x).or (td x)
set_option maxRecDepth 100000 in
set_option maxHeartbeats 4000000 in
theorem copy_any (bd bs nd ns:Nat) (td ts:List UInt8→Option Ent) (w:World) (hd:Tb w bd nd td) (hs:Tb w bs ns ts) (hne:bd≠bs) (hroom:nd+ns≤1000):
 Calls Tryz.prog 88 #[.map (some bd),.map (some bs)] w fun e w'=>e= .returned (.tuple #[])∧Tb w' bd (nd+ns) (fun x=>(ts x).or (td x))∧w.grownBy w' (some bd):=by
 have hbd:=hd.lt
 have hbs:=hs.lt
 obtain⟨Dd,hd1,hd2⟩:=hd
 obtain⟨Ds,hs1,hs2⟩:=hs
 have haw:=owns_away hd1
 have hsz:=hs1.size_le
 have HD:=Lib.hid hd2
 have HS:=Lib.hid hs2
 have HA:=Lib.hid haw
 clear hd2 hs2 haw
 go_enter Tryz.func88,Tryz.ntmps88
 go_wp2_with (at_range;refine wpList_range_own _ rfl _ 74 rfl 9 83 keyed9 Tryz.underlying74 RV bs ns _ rfl hs1 ?_;intro w0 hrg0 hg0 hs0)
 go_frame
 go_loopw [8] (fun _ wr=>∃(left:Lit→Bool) (cnt:Nat) (Dout:DataW Value),wr.ranges Tryz.prog 9 RV bs w.heap.size ns Ds left cnt∧cnt≤Maps.size Ds∧
  wr.ownsMap Tryz.prog 9 RV bd (nd+(Maps.size Ds-cnt)) Dout∧Hid (Tells1 w Dout (mixT ts td left))∧w.grownBy wr (some bd))
  (fun _ wr=>wr.rangeLeft bs w.heap.size)
 case atStart=>
  refine⟨_,_,Dd,hrg0,Nat.le_refl _,(hd1.kept hg0 (by simp)).mono (by omega),?_,hg0.but _⟩
  intro x
  have h1:=HD.out x
  have h2:=HS.out x
  unfold mixT
  by_cases c:Maps.has Ds (.string x)=true
  ·rw[if_pos c]
   split at h1
   ·rename_i e he
    obtain⟨v,h3,h4⟩:=h1
    exact⟨v,h3,h4⟩
   ·exact h1
  ·rw[if_neg c]
   have c':Maps.has Ds (.string x)=false:=by simpa using c
   split at h2
   ·rename_i e he
    obtain⟨v,h3,_⟩:=h2
    rw[has_true_of_atKey h3]at c';cases c'
   ·rename_i hn
    rw[hn,Option.none_or]
    split at h1
    ·rename_i e he
     obtain⟨v,h3,h4⟩:=h1
     exact⟨v,h3,h4⟩
    ·exact h1
 case round=>
  obtain⟨left,cnt,Dout,hrg,hcs,hout,HM,hgw⟩:=hrel
  go_wp2_with (at_next;refine wpList_next_ranges _ rfl _ rfl 9 keyed9 RV id id (fun key _ _=>⟨key,rfl⟩) (fun v _ _=>⟨v,rfl⟩) bs w.heap.size ns _ _ _ rfl hrg ?_ ?_)
  ·intro hc0 hl0
   go_wp2
   go_end0
   refine⟨rfl,⟨_,hout.mono (by omega),?_⟩,hgw⟩
   have e:mixT ts td left=fun x=>(ts x).or (td x):=by
    funext x
    unfold mixT
    rw[if_neg (by rw[hl0];decide)]
   rw[←e];exact HM.out.grown HA.out hgw
  ·intro x c kl y ps w1 cnt1 hkey hlx hv hat hrg1 hlt hg1 hs1' hen
   obtain⟨s,hxs,hks,hsz⟩:=Go.WideMaps.string_of_keyOf Tryz.underlying9 hkey
   change x=_ at hxs
   subst hxs hks
   have hy:y= .held c:=by unfold RV at hv;injection hv with hv;injection hv with hv;exact hv.symm
   subst hy
   obtain⟨e,he,hce⟩:∃e,ts s.data.toList=some e∧e.At w c:=by
    have h2:=HS.out s.data.toList
    split at h2
    ·rename_i e he
     obtain⟨v,h3,h4⟩:=h2
     have:=(h3 .nil).symm.trans (hat .nil)
     injection this with this
     exact⟨e,he,this▸h4⟩
    ·have:=(h2 .nil).symm.trans (hat .nil)
     cases this
   obtain⟨cs,hcc,hcs1⟩:=ent_form hce
   subst hcc
   have HC:=Lib.hid hcs1
   have HE:=Lib.hid hce
   have HT:=Lib.hid he
   have HL:=Lib.hid hlx
   have HAT:=Lib.hid hat
   clear hcs1 hce he hlx hat hv hkey
   have hout1:=hout.kept hg1 (fun e=>by have:=Option.some.inj e;have:=hrg.lt;have:=hgw.size;omega)
   go_wp2_with (first
    |refine wpList_alloc83 rfl rfl ?_
    |(refine wpList_store83 rfl rfl rfl rfl (blk_new' w1 83 fz _ hs1'.symm) (by rfl) HC.out ?_;intro w2 hn2 hg2 hz2)
    |refine wpList_load83 rfl rfl rfl hn2 HC.out.1 ?_
    |(at_mapUpdate;refine wpList_upd rfl rfl rfl rfl rfl hsz (((hout1.alloc _).kept hg2 (fun e=>by have:=Option.some.inj e;have:=hout1.lt;omega))) (by have:=hrg.owns;unfold maxLen;omega) ?_;intro w3 hout3 hg3))
   have hrs:=hrg.lt
   have hws:=hgw.size
   have hrg2:=(hrg1.alloc (.cells fz 83)).kept hg2 (fun e=>by have:=Option.some.inj e;omega) (fun e=>by have:=Option.some.inj e;omega)
   have hrg3:=hrg2.kept hg3 (fun e=>hne (Option.some.inj e).symm) (fun e=>by have:=Option.some.inj e;omega)
   go_roundw
   case rel=>
    refine⟨_,cnt1,hrg3,by omega,_,hout3.mono (by omega),?_,?_⟩
    ·have h:=HM.out.put hout.isMap HE.out (k:=s.data.toList)
     have e:put s.data.toList e (mixT ts td left)=mixT ts td (fun z=>left z&& !z.sameKey (.string s.data.toList)):=by
      funext x
      unfold put mixT
      by_cases hx:s.data.toList=x
      ·subst hx
       rw[if_pos rfl,if_neg (by show ¬(left _&& !(Lit.string s.data.toList).sameKey (.string s.data.toList))=true;rw[WideAt.sameKey_self (show WideAt.IsKeyLit (.string s.data.toList)from trivial)];simp),HT.out];rfl
      ·rw[if_neg hx]
       have:(Lit.string x).sameKey (.string s.data.toList)=false:=sameKey_ne (fun e=>by injection e with e;exact hx e.symm)
       simp only[this,Bool.not_false,Bool.and_true]
     rw[e]at h;exact h
    ·exact((hgw.andThen hg1 (fun j hj=> .inl (by cases hj;exact Nat.le_refl _))).andThen ((World.grownBy_alloc w1 (.cells fz 83) none).andThen hg2 (fun j hj=> .inl (by cases hj;omega))) (fun j hj=>by cases hj)).andThen hg3 (fun j hj=> .inr hj)
   case measure=>rw[hrg3.left_eq,hrg.left_eq];exact hlt
theorem tb_app {w:World} {b n:Nat} {S T:List (List UInt8×Ent)} (h:Tb w b n (fun x=>(look S x).or (look T x))):Tb w b n (look (S++T)):=by
 have e:look (S++T)=fun x=>(look S x).or (look T x):=by funext x;exact look_app S T x
 rw[e];exact h
/-- All functions. -/
def tabAll (M E:Int):List (List UInt8×Ent):=tab87 M E++(tab86++(tab85++tab84))
end Go.Proofs.YtmhfioimgllgeaaGreatDoor
namespace Go.Proofs.YtmhfioimgllgeaaGreatDoor
open Go Go.RowKit Go.Shelf Go.Maps
theorem info34d :(Tryz.prog.info? 34).map (·.size)=some 2:=by kernel_rfl
theorem yieldsD {a:Act} {o:Oper} {w:World} {x:Operand} {g:Nat} {M E:Int} (ho:o.op= .load 34 x) (hx:a.eval x= .pointer (some ⟨g,0,none⟩)) (hd:World.dec w g M E):(execOp a.eval o).run Tryz.prog w= .ok (.value (.agg #[.int .i64 M,.int .i64 E])) w:=by
 have:=run_loadVar_row (P:=Tryz.prog) w g 34 34 _ (0,0) _ hd Tryz.underlying34 rfl info34d
 unfold execOp
 simp only[ho,hx,Instr.loadAt,Instr.sureAddr,Sem.run_bind,Sem.run_pure,Result.andThen_ok,this]
theorem bslice_maps (p q r:Nat) (w:World):(Instr.buildSlice 131 3 #[(0,.map (some p)),(1,.map (some q)),(2,.map (some r))]).run Tryz.prog w= .ok (.slice (some ⟨w.heap.size,0,none⟩) 3 3) (w.alloc (.cells #[.map (some p),.map (some q),.map (some r)] 74)):=by kernel_rfl
theorem op_bslice131 {o:Oper} {a:Act} {w:World} {K:Act→World→Prop} {Q:Exit→Act→World→Prop} {x y z:Operand} {p q r:Nat} (ho:o.op= .buildSlice 131 3 #[(0,x),(1,y),(2,z)]) (hx:a.eval x= .map (some p)) (hy:a.eval y= .map (some q)) (hz:a.eval z= .map (some r))
 (h:K (a.put o.dst (.slice (some ⟨w.heap.size,0,none⟩) 3 3)) (w.alloc (.cells #[.map (some p),.map (some q),.map (some r)] 74))):o.wp Tryz.prog a w K Q:=by
 have hb:=bslice_maps p q r w
 unfold Oper.wp execOp
 simp[ho,hx,hy,hz,hb]
 exact h
theorem Tb.grown {w W:World} {b n g:Nat} {t:List UInt8→Option Ent} (h:Tb w b n t) (ha:Away w g) (hg:w.grownBy W (some g)) (hne:b≠g):Tb W b n t:=by
 obtain⟨D,h1,h2⟩:=h
 exact⟨D,h1.kept hg (by intro e;injection e with e;exact hne e),h2.grown ha hg⟩
theorem Tb.away {w:World} {b n:Nat} {t:List UInt8→Option Ent} (h:Tb w b n t):Away w b:=owns_away h.choose_spec.1
theorem blk_but {w W:World} {g t b:Nat} {cs:Array Value} (h:World.blk w g t cs) (hg:w.grownBy W (some b)) (hne:g≠b):World.blk W g t cs:=by
 unfold World.blk at*
 rw[hg.block g (Array.getElem?_eq_some_iff.1 h).1 (by intro e;injection e with e;exact hne e)];exact h
/-- All functions, at a time. -/
def FunsPost (M E:Int) (w:World) (e:Ending) (w':World):Prop:=∃b,e= .returned (.map (some b))∧Tb w' b 100 (look (tabAll M E))∧Below w.heap.size w w'
set_option maxRecDepth 100000 in
set_option maxHeartbeats 8000000 in
theorem funs_any (M E:Int) (w:World):Calls Tryz.prog 39 #[.agg #[.int .i64 M,.int .i64 E]] w (FunsPost M E w):=by
 go_enter Tryz.func39,Tryz.ntmps39
 go_upto_region 1 with fail
 obtain⟨W0,hW⟩:∃W,W=w.alloc (.cells #[.int .i64 M,.int .i64 E] 34):=⟨_,rfl⟩
 rw[←hW]
 have hB0:Below w.heap.size w W0:=by rw[hW];exact(Below.refl _ w).alloc (Nat.le_refl _) _
 have hd:World.dec W0 w.heap.size M E:=by rw[hW];exact World.dec_new w M E _ rfl
 clear hW
 have hB:=hB0
 go_upto_region 2 with (refine(tab84_any _).mono ?_;rintro e W84 ⟨b84,rfl,hl84,hT84,hB84⟩)
 have hd:=hd.below hB84 hd.lt
 have hB:=hB.trans (hB84.mono hB.size)
 have hB:Below w.heap.size w W84.drew:=hB.drew
 have hd:World.dec W84.drew w.heap.size M E:=hd
 have hT84:=hT84.below (Below.refl _ W84).drew
 have hl84:w.heap.size≤b84:=Nat.le_trans hB0.size hl84
 clear hB84
 refine wp_region_held_drew (S:=fun w9=>World.dec w9 w.heap.size M E) (by kernel_rfl) hd (fun hHeld=> ?_)
 obtain⟨W1,hW1⟩:∃W,W=W84.drew:=⟨_,rfl⟩
 rw[←hW1]at hd hT84 hB hHeld⊢
 clear hW1
 refine tk 2 ⟨some 9,_,_,_,_,_⟩ ?_ hHeld ?_ ?_
 rotate_left
 ·(intro w9 hSw;refine yieldsD (x:= .tmp 1) (g:=w.heap.size) ?_ ?_ hSw<;>rfl)
 try simp only[Act.put,List.setIfInBounds_toArray,List.set_cons_zero,List.set_cons_succ]
 refine tk 6 ⟨some 13,_,_,_,_,_⟩ ?_ hHeld ?_ ?_
 rotate_left
 ·(intro w9 hSw;(try dsimp only at hSw);go_simp)
  all_goals with_reducible rfl
 try simp only[Act.put,List.setIfInBounds_toArray,List.set_cons_zero,List.set_cons_succ]
 refine wpAnyH_ready (rs:= [0]) (by kernel_rfl) (by simp) ?_
 refine(AllReadyH.cons (o:=⟨some 7,_,_,_,_,_⟩) rfl (fun KK hK=> ?_) AllReadyH.nil)
 (try rw[if_pos (by rfl)])
 go_simp
 refine(tab85_any _).mono ?_
 rintro e W85 ⟨b85,rfl,hl85,hT85,hB85⟩
 have hd:=hd.below hB85 hd.lt
 have k1:b84<b85:=Nat.lt_of_lt_of_le hT84.lt hl85
 have hT84:=hT84.below hB85
 have hB:=hB.trans (hB85.mono hB.size)
 refine hK.out _ _ hd (fun hHeld=> ?_)
 clear hK KK
 try simp only[Act.put,List.setIfInBounds_toArray,List.set_cons_zero,List.set_cons_succ]
 refine wpAnyH_ready (rs:= [1]) (by kernel_rfl) (by simp) ?_
 refine(AllReadyH.cons (o:=⟨some 8,_,_,_,_,_⟩) rfl (fun KK hK=> ?_) AllReadyH.nil)
 (try rw[if_pos (by rfl)])
 go_simp
 refine(tab86_any _).mono ?_
 rintro e W86 ⟨b86,rfl,hl86,hT86,hB86⟩
 have hd:=hd.below hB86 hd.lt
 have k2:b85<b86:=Nat.lt_of_lt_of_le hT85.lt hl86
 have hT84:=hT84.below hB86
 have hT85:=hT85.below hB86
 have hB:=hB.trans (hB86.mono hB.size)
 refine hK.out _ _ hd (fun hHeld=> ?_)
 clear hK KK
 try simp only[Act.put,List.setIfInBounds_toArray,List.set_cons_zero,List.set_cons_succ]
 refine wpAnyH_ready (rs:= [3]) (by kernel_rfl) (by simp) ?_
 refine(AllReadyH.cons (o:=⟨some 10,_,_,_,_,_⟩) rfl (fun KK hK=> ?_) AllReadyH.nil)
 (try rw[if_pos (by rfl)])
 go_simp
 refine(tab87_any M E _).mono ?_
 rintro e W87 ⟨b87,rfl,hl87,hT87,hB87⟩
 have hd:=hd.below hB87 hd.lt
 have k3:b86<b87:=Nat.lt_of_lt_of_le hT86.lt hl87
 have hT84:=hT84.below hB87
 have hT85:=hT85.below hB87
 have hT86:=hT86.below hB87
 have hB:=hB.trans (hB87.mono hB.size)
 refine hK.out _ _ hd (fun hHeld=> ?_)
 clear hK KK
 try simp only[Act.put,List.setIfInBounds_toArray,List.set_cons_zero,List.set_cons_succ]
 clear hB85 hB86 hB87 hl85 hl86 hl87
 refine wpAnyH_ready (rs:= [4]) (by kernel_rfl) (by simp) ?_
 refine(AllReadyH.cons (o:=⟨some 11,_,_,_,_,_⟩) rfl (fun KK hK=> ?_) AllReadyH.nil)
 (try rw[if_pos (by rfl)])
 refine op_bslice131 rfl rfl rfl rfl ?_
 obtain⟨W,hW⟩:∃W,W=W87.alloc (.cells #[.map (some b85),.map (some b86),.map (some b87)] 74):=⟨_,rfl⟩
 rw[←hW]
 have hn:World.blk W W87.heap.size 74 #[.map (some b85),.map (some b86),.map (some b87)]:=by rw[hW];exact blk_new _ _ _
 have hBn:Below W87.heap.size W87 W:=by rw[hW];exact(Below.refl _ _).alloc (Nat.le_refl _) _
 have k4:b87<W87.heap.size:=hT87.lt
 have hd:=hd.below hBn hd.lt
 have hT84:=hT84.below hBn
 have hT85:=hT85.below hBn
 have hT86:=hT86.below hBn
 have hT87:=hT87.below hBn
 have hB:=hB.trans (hBn.mono hB.size)
 clear hW hBn
 refine hK.out _ _ hd (fun hHeld=> ?_)
 clear hK KK
 try simp only[Act.put,List.setIfInBounds_toArray,List.set_cons_zero,List.set_cons_succ]
 refine tk 5 ⟨some 12,_,_,_,_,_⟩ ?_ hHeld ?_ ?_
 rotate_left
 ·(intro w9 hSw;(try dsimp only at hSw);go_simp)
  all_goals with_reducible rfl
 try simp only[Act.put,List.setIfInBounds_toArray,List.set_cons_zero,List.set_cons_succ]
 refine wpAnyH_done (by kernel_rfl) ?_ _
 try simp only[Act.put,List.setIfInBounds_toArray,List.set_cons_zero,List.set_cons_succ]
 have l84:tab84.length=13:=rfl
 have l85:tab85.length=22:=rfl
 have l86:tab86.length=6:=rfl
 have l87:(tab87 M E).length=28:=rfl
 have c0:=hn.cell (j:=0) rfl
 have c1:=hn.cell (j:=1) rfl
 have c2:=hn.cell (j:=2) rfl
 have L84:=Lib.hid l84
 have L85:=Lib.hid l85
 have L86:=Lib.hid l86
 have L87:=Lib.hid l87
 clear hHeld l84 l85 l86 l87
 go_wp2_with fail
 refine wp_loop_rounds 4 ?_
 rw[rounds_succ]
 go_wp2_with fail
 refine(copy_any b84 b85 _ _ _ _ _ hT84 hT85 (by omega) (by simp only[L84.out,L85.out];omega)).mono ?_
 rintro e X1 ⟨rfl,hT,hg⟩
 have ha:=hT84.away
 have hT86:=hT86.grown ha hg (by omega)
 have hT87:=hT87.grown ha hg (by omega)
 have hn:=blk_but hn hg (by omega)
 have hB:=hB.grown hg hB.size (fun k hk=>by cases hk;omega)
 have hT84:=tb_app hT
 clear ha hg hT
 have c1:=hn.cell (j:=1) rfl
 have c2:=hn.cell (j:=2) rfl
 go_wp2_with fail
 rw[rounds_succ]
 go_wp2_with fail
 refine(copy_any b84 b86 _ _ _ _ _ hT84 hT86 (by omega) (by simp only[L84.out,L85.out,L86.out];omega)).mono ?_
 rintro e X2 ⟨rfl,hT,hg⟩
 have ha:=hT84.away
 have hT87:=hT87.grown ha hg (by omega)
 have hn:=blk_but hn hg (by omega)
 have hB:=hB.grown hg hB.size (fun k hk=>by cases hk;omega)
 have hT84:=tb_app hT
 clear ha hg hT
 have c1:=hn.cell (j:=1) rfl
 have c2:=hn.cell (j:=2) rfl
 go_wp2_with fail
 rw[rounds_succ]
 go_wp2_with fail
 refine(copy_any b84 b87 _ _ _ _ _ hT84 hT87 (by omega) (by simp only[L84.out,L85.out,L86.out,L87.out];omega)).mono ?_
 rintro e X3 ⟨rfl,hT,hg⟩
 have ha:=hT84.away
 have hn:=blk_but hn hg (by omega)
 have hB:=hB.grown hg hB.size (fun k hk=>by cases hk;omega)
 have hT84:=tb_app hT
 clear ha hg hT
 go_wp2_with fail
 rw[rounds_succ]
 go_wp2_with fail
 go_ret
 exact⟨_,rfl,hT84.mono (by simp only[L84.out,L85.out,L86.out,L87.out];omega),hB⟩
end Go.Proofs.YtmhfioimgllgeaaGreatDoor
namespace Go.Proofs.YtmhfioimgllgeaaGreatDoor
open Go Go.RowKit Go.Shelf
def upC (c:UInt8):UInt8:=if 97≤c.toNat∧c.toNat≤122 then c-32 else c
def upL (l:List UInt8):List UInt8:=l.map upC
def upS (s:ByteArray):ByteArray:=mk (upL s.data.toList)
theorem upL_at (s:ByteArray) (j:Nat) (hj:j<(upL s.data.toList).length):upC (s.data.toList.getD j 0)=(upL s.data.toList)[j]:=by
 have h2:j<s.data.toList.length:=by simpa [upL]using hj
 simp only[upL,List.getElem_map,List.getD_eq_getElem?_getD]
 rw[List.getElem?_eq_getElem h2]
 rfl
theorem upC_lo {c:UInt8} (h:97≤c.toNat∧c.toNat≤122):((upC c).toNat:Int)=(c.toNat:Int)-32:=by
 unfold upC
 have h32:(32:UInt8).toNat=32:=rfl
 rw[if_pos h,UInt8.toNat_sub_of_le _ _ (by rw[UInt8.le_iff_toNat_le,h32];omega),h32]
 omega
theorem upC_no {c:UInt8} (h:¬(97≤c.toNat∧c.toNat≤122)):upC c=c:=by unfold upC;rw[if_neg h]
set_option maxRecDepth 100000 in
set_option maxHeartbeats 2000000 in
theorem upper_any (s:ByteArray) (w:World) (hs:s.size≤4294967280):Calls Tryz.prog 42 #[.string s] w (Gives (.string (upS s)) w):=by
 obtain⟨W,cap,hconv,hby,hB⟩:=bytes_new w s
 have hlt:=hby.lt
 go_enter Tryz.func42,Tryz.ntmps42
 go_wp2
 clear hconv
 go_loopw [10] (fun i wr=>∃K:Nat,K≤s.size∧i= .int .i64 (K:Int)∧ByAt wr w.heap.size s.size (fun j=>if j<K then upC (s.data.toList.getD j 0)else s.data.toList.getD j 0)∧Below w.heap.size w wr) (fun i _=>s.size-(intOf i).toNat)
 case atStart=>exact⟨0,Nat.zero_le _,rfl,hby.congr (fun j _=>by simp),hB⟩
 case round=>
  obtain⟨K,hK,rfl,hb,hBr⟩:=hrel
  clear hby hB
  by_cases hlt2:K<s.size
  ·have hKI:(K:Int)<(s.size:Int):=by omega
   obtain⟨c,hc⟩:∃c,s.data.toList.getD K 0=c:=⟨_,rfl⟩
   have h0:=hb.cell K hlt2
   have hf:=hb.free K hlt2
   rw[if_neg (by omega),hc]at h0
   have hc256:c.toNat<256:=UInt8.toNat_lt _
   by_cases hr:97≤c.toNat∧c.toNat≤122
   ·have hr1:(97:Int)≤(c.toNat:Int):=by omega
    have hr2:(c.toNat:Int)≤122:=by omega
    have HS:Hid (∀v:Int,v=(c.toNat:Int)-32→ByAt (wr.setCell ⟨w.heap.size,K,none⟩ (.int .u8 v)) w.heap.size s.size (fun j=>if j<K+1 then upC (s.data.toList.getD j 0)else s.data.toList.getD j 0)):=Lib.hid fun v hv=>by
     have:=hb.set hlt2 (upC c)
     rw[upC_lo hr,←hv]at this
     refine this.congr (fun j _=> ?_)
     by_cases e:j=K
     ·subst e;rw[if_pos rfl,if_pos (by omega),hc]
     ·rw[if_neg e]
      by_cases e2:j<K
      ·rw[if_pos e2,if_pos (by omega)]
      ·rw[if_neg e2,if_neg (by omega)]
    clear hb hc hr
    go_wp2
    go_roundw
    case rel=>exact⟨K+1,by omega,by go_num,HS.out _ (by omega),hBr.setCell (Nat.le_refl _) _⟩
    case measure=>simp[intOf];omega
   ·have HS:Hid (ByAt wr w.heap.size s.size (fun j=>if j<K+1 then upC (s.data.toList.getD j 0)else s.data.toList.getD j 0)):=Lib.hid (hb.congr (fun j _=>by
     by_cases e:j=K
     ·subst e;rw[if_neg (by omega),if_pos (by omega),hc,upC_no hr]
     ·by_cases e2:j<K
      ·rw[if_pos e2,if_pos (by omega)]
      ·rw[if_neg e2,if_neg (by omega)]))
    clear hb hc
    rcases(by omega:c.toNat<97∨(97≤c.toNat∧122<c.toNat))with hr'|⟨hr1,hr2⟩
    ·have hr1:(c.toNat:Int)<97:=by omega
     clear hr
     go_wp2
     go_roundw
     case rel=>exact⟨K+1,by omega,by go_num,HS.out,hBr⟩
     case measure=>simp[intOf];omega
    ·have hr1:(97:Int)≤(c.toNat:Int):=by omega
     have hr2:(122:Int)<(c.toNat:Int):=by omega
     clear hr
     go_wp2
     go_roundw
     case rel=>exact⟨K+1,by omega,by go_num,HS.out,hBr⟩
     case measure=>simp[intOf];omega
  ·have hKI:¬(K:Int)<(s.size:Int):=by omega
   have hback:=hb.back (l:=upL s.data.toList) (cap:=cap) (by simp[upL]) (fun j hj=>by
    have:j<s.size:=by simpa [upL]using hj
    show(if j<K then _ else _)=_
    rw[if_pos (by omega),upL_at s j hj])
   clear hb
   go_wp2
   go_ret
   exact⟨rfl,hBr⟩
end Go.Proofs.YtmhfioimgllgeaaGreatDoor
