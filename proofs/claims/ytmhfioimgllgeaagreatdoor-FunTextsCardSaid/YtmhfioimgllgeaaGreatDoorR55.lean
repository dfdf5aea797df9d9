/- Fun: the examples of the chapter. (By genexa.py.) -/
import Derived.Test.YtmhfioimgllgeaaGreatDoorR01
import Derived.Test.YtmhfioimgllgeaaGreatDoorR51
import Derived.Test.YtmhfioimgllgeaaGreatDoorR53
import Derived.Test.YtmhfioimgllgeaaGreatDoorR54
namespace Go.Proofs.YtmhfioimgllgeaaGreatDoor
open Go Go.RowKit Go.Shelf
theorem ex_num (n:Int) (h0: -9223372036854775808≤n) (h1:n≤9223372036854775807) (h:ofD n=((n,0),0)) (W:World):Calls Tryz.prog 23 #[.int .i64 n] W (Gives (.agg (pcs (numV (n,0)))) W):=by
 have:=num23_any n W h0 h1
 rwa [h]at this
theorem ex_known (s:ByteArray) (hs:s.size≤1000) (v:Value) (h:(match look (tabAll 0 0) (upL s.data.toList)with|some e=>Value.tuple #[.int .i64 e.least,.int .i64 e.most,.bool true]|none=> .tuple #[.int .i64 0,.int .i64 0,.bool false])=v) (W:World):Calls Tryz.prog 15 #[.string s] W (Gives v W):=by
 subst h
 exact known_any s hs W
theorem ex_same (x:Vl) (hx:plainV x=true) (W:World):Calls Tryz.prog 38 #[.agg (pcs x),.agg (pcs x)] W (Gives (.bool true) W):=by
 refine(rsame_any 1 x x _ _ W (rp_plain hx) (rp_plain hx)).mono ?_
 rintro e w' ⟨b,rfl,hb,hB⟩
 exact⟨by rw[hb.2 rfl],hB⟩
theorem ex_num_plain (n:Int) (h:n=1∨n=2∨n=3∨n=7):plainV (numV (n,0))=true:=by
 rcases h with rfl|rfl|rfl|rfl<;>exact plain_num (by unfold RightP;decide)
theorem ex_sum (W:World) (g:Nat) (_:Value) (hA:ArgsAt W (.slice (some ⟨g,0,none⟩) 5 5) [numV (1,0),arrV 1 2 [numV (2,0),txtV (mk [120])],txtV (mk [51]),trV true,{}]) (hE:Env W):
 Calls Tryz.prog 18 #[.string ⟨#[115,117,109]⟩,.slice (some ⟨g,0,none⟩) 5 5,.agg #[.int .i64 0,.int .i64 0]] W (Gives (.agg (pcs (numV (7,0)))) W):=by
 have:=call_sum (mk [115,117,109]) (by decide) (by decide) 0 0 _ _ W hA (by decide) (by decide) hE
 have e:gathV sumV [numV (1,0),arrV 1 2 [numV (2,0),txtV (mk [120])],txtV (mk [51]),trV true,{}]=numV (7,0):=by kernel_rfl
 rwa [e]at this
theorem ex_mid (W:World) (g:Nat) (hr:World.vr W g (.slice (some ⟨g,0,none⟩) 3 3) [txtV (mk [104,195,169,108,108,111]),numV (2,0),numV (3,0)]) (hE:Env W):
 Calls Tryz.prog 18 #[.string ⟨#[77,73,68]⟩,.slice (some ⟨g,0,none⟩) 3 3,.agg #[.int .i64 0,.int .i64 0]] W (Gives (.agg (pcs (txtV (mk [195,169,108,108])))) W):=by
 have:=call_mid (mk [104,195,169,108,108,111]) (by kernel_rfl) (2,0) (3,0) (by unfold RightP;decide) (by unfold RightP;decide) g 0 3 (by decide) (by unfold maxLen;omega) W (vr_els hr).2.2.2.2 hE (by
  intro x hx
  simp only[List.mem_cons,List.not_mem_nil,or_false]at hx
  rcases hx with rfl|rfl|rfl
  ·exact plain_txt (by kernel_rfl)
  ·exact ex_num_plain 2 (by decide)
  ·exact ex_num_plain 3 (by decide))
 have e:midV (mk [104,195,169,108,108,111]) (numV (2,0)) (numV (3,0))=txtV (mk [195,169,108,108]):=by kernel_rfl
 rwa [e]at this
theorem ex_round (W:World) (g:Nat) (hA:ArgsAt W (.slice (some ⟨g,0,none⟩) 2 2) [arrV 2 1 [numV (125,-2),numV (25,-1)],numV (1,0)]) (hE:Env W):
 Calls Tryz.prog 18 #[.string ⟨#[82,111,117,110,100]⟩,.slice (some ⟨g,0,none⟩) 2 2,.agg #[.int .i64 0,.int .i64 0]] W (HandsA 2 1 [numV (13,-1),numV (25,-1)] W):=by
 have:=call_round (mk [82,111,117,110,100]) (by decide) (by decide) _ _ W hA (by decide) (by decide) hE (by decide) (by decide)
 have e1:lR [arrV 2 1 [numV (125,-2),numV (25,-1)],numV (1,0)]=2:=by decide
 have e2:lC [arrV 2 1 [numV (125,-2),numV (25,-1)],numV (1,0)]=1:=by decide
 have e3:liftL (letV [110,110] fun zs=>roundV (zs.map dcs)) [arrV 2 1 [numV (125,-2),numV (25,-1)],numV (1,0)]= [numV (13,-1),numV (25,-1)]:=by kernel_rfl
 rwa [e1,e2,e3]at this
theorem ex_foo (W:World):Calls Tryz.prog 18 #[.string ⟨#[70,79,79]⟩,.slice none 0 0,.agg #[.int .i64 0,.int .i64 0]] W (Gives (.agg (pcs (errV 5))) W):=call_miss (mk [70,79,79]) (by decide) 0 0 (by kernel_rfl) _ W
theorem ex_few (W:World):Calls Tryz.prog 18 #[.string ⟨#[83,85,77]⟩,.slice none 0 0,.agg #[.int .i64 0,.int .i64 0]] W (Gives (.agg (pcs (errV 3))) W):=call_few (mk [83,85,77]) (by decide) 0 0 {least:=1,most:=20,all:=some (.c 253 (.f 164))} (by kernel_rfl) none 0 0 W (by decide)
theorem ex_now (W:World) (hE:Env W):Calls Tryz.prog 18 #[.string ⟨#[78,79,87]⟩,.slice none 0 0,.agg #[.int .i64 7,.int .i64 0]] W (Gives (.agg (pcs (numV (7,0)))) W):=call_now 7 0 (by unfold RightP;decide) W hE
theorem ex_args5 {W:World} {g D:Nat} {L:Value} (hr:World.vr W D L [numV (2,0),txtV (mk [120])]) (hb:World.vb W g ([pcs (numV (1,0)),vcs (arrV 1 2 [numV (2,0),txtV (mk [120])]) L nilS nilS,pcs (txtV (mk [51])),pcs (trV true),pcs {}].flatMap (·.toList)).toArray):ArgsAt W (.slice (some ⟨g,0,none⟩) 5 5) [numV (1,0),arrV 1 2 [numV (2,0),txtV (mk [120])],txtV (mk [51]),trV true,{}]:=by
 refine args_blk _ [numV (1,0),arrV 1 2 [numV (2,0),txtV (mk [120])],txtV (mk [51]),trV true,{}] rfl (by decide) (by simp) ?_ hb
 intro i x C hx hC
 match i,hx,hC with
 |0,hx,hC=>injection hx with hx;injection hC with hC;subst hx hC;exact at_plain (ex_num_plain 1 (by decide))
 |1,hx,hC=>injection hx with hx;injection hC with hC;subst hx hC;exact at_vr hr (by kernel_rfl)
 |2,hx,hC=>injection hx with hx;injection hC with hC;subst hx hC;exact at_plain (plain_txt (by kernel_rfl))
 |3,hx,hC=>injection hx with hx;injection hC with hC;subst hx hC;exact at_plain (by decide)
 |4,hx,hC=>injection hx with hx;injection hC with hC;subst hx hC;exact at_plain (by decide)
 |i+5,hx,hC=>simp at hx
theorem ex_args2 {W:World} {g D:Nat} {L:Value} (hr:World.vr W D L [numV (125,-2),numV (25,-1)]) (hb:World.vb W g ([vcs (arrV 2 1 [numV (125,-2),numV (25,-1)]) L nilS nilS,pcs (numV (1,0))].flatMap (·.toList)).toArray):ArgsAt W (.slice (some ⟨g,0,none⟩) 2 2) [arrV 2 1 [numV (125,-2),numV (25,-1)],numV (1,0)]:=by
 refine args_blk _ [arrV 2 1 [numV (125,-2),numV (25,-1)],numV (1,0)] rfl (by decide) (by simp) ?_ hb
 intro i x C hx hC
 match i,hx,hC with
 |0,hx,hC=>injection hx with hx;injection hC with hC;subst hx hC;exact at_vr hr (by kernel_rfl)
 |1,hx,hC=>injection hx with hx;injection hC with hC;subst hx hC;exact at_plain (ex_num_plain 1 (by decide))
 |i+2,hx,hC=>simp at hx
theorem ex_names (W:World):Calls Tryz.prog 12 #[] W fun e w'=>∃gn cn,e= .returned (.slice (some ⟨gn,0,none⟩) 69 cn)∧Below W.heap.size W w'∧∀W2,Below w'.heap.size w' W2→W2.cell? ⟨gn,0,none⟩=some (.string ⟨#[65,66,83]⟩):=by
 refine(names12 W).mono ?_
 rintro e w' ⟨v,rfl,hr,hB⟩
 have e69:(NL.map mk).length=69:=by kernel_rfl
 obtain⟨p,c,rfl,_,hp⟩:=hr.slice
 obtain⟨g,rfl,hg,hc⟩:=hp (by intro e;rw[e]at e69;simp at e69)
 rw[e69]
 exact⟨g,c,rfl,hB,fun W2 hW2=>(hW2.cell (p:=⟨g,0,none⟩) hg).trans (hc 0 (mk [65,66,83]) (by kernel_rfl))⟩
theorem yields_tr {a:Act} {o:Oper} {w:World} {b:Bool} (ho:o.op= .build 39 #[(0,.const (.int .i64 3)),(3,.const (.bool b))]) (_h:True):(execOp a.eval o).run Tryz.prog w= .ok (.value (.agg (pcs (trV b)))) w:=by
 have hb:=build_tr b w
 have e1:a.eval (.const (.int .i64 3))= .int .i64 3:=rfl
 have e2:a.eval (.const (.bool b))= .bool b:=rfl
 unfold execOp
 simp[ho,e1,e2,hb]
theorem yields_zero {a:Act} {o:Oper} {w:World} (ho:o.op= .build 39 #[]):(execOp a.eval o).run Tryz.prog w= .ok (.value (.agg (pcs {}))) w:=by
 have hb:=build_zero w
 unfold execOp
 simp[ho,hb]
set_option maxRecDepth 100000 in
set_option maxHeartbeats 16000000 in
theorem examples_any (w:World) (hE:Env w):Calls Tryz.prog 11 #[] w (Gives (.bool true) w):=by
 have HEN:=Lib.hid (show ∀W,Below w.heap.size w W→Env W from fun W hW=>hE.below hW)
 have H1:=Lib.hid (ex_num 1 (by decide) (by decide) (by kernel_rfl))
 have H2:=Lib.hid (ex_num 2 (by decide) (by decide) (by kernel_rfl))
 have H3:=Lib.hid (ex_num 3 (by decide) (by decide) (by kernel_rfl))
 have H7:=Lib.hid (ex_num 7 (by decide) (by decide) (by kernel_rfl))
 have HX:=Lib.hid (fun W=>text24_any (mk [120]) W)
 have HT3:=Lib.hid (fun W=>text24_any (mk [51]) W)
 have HHE:=Lib.hid (fun W=>text24_any (mk [104,195,169,108,108,111]) W)
 have HEL:=Lib.hid (fun W=>text24_any (mk [195,169,108,108]) W)
 clear hE
 go_enter Tryz.func11,Tryz.ntmps11
 go_upto_region 2 with (first|(go_at_call 23;refine(H2.out _).mono ?_;rintro e w1 ⟨rfl,hs⟩)|(go_at_call 24;refine(HX.out _).mono ?_;rintro e w2 ⟨rfl,hb⟩;have hs:=hs.trans (hb.mono hs.size))|(refine wpList_bsl2 rfl rfl rfl rfl ?_;have hr1:=vr_blk (World.vb_new w2 (vsC [numV (2,0),txtV (mk [120])]).toArray) (by decide);have hs:=hs.alloc hs.size (.cells (vsC [numV (2,0),txtV (mk [120])]).toArray 39))|refine wpList_buildA [numV (2,0),txtV (mk [120])] rfl rfl rfl rfl rfl ?_|refine wpList_alloc34 rfl rfl ?_|(refine wpList_store34 rfl rfl rfl rfl (World.vb_new' _ vz _ rfl) (by rfl) (vcs_one _ _ none none _ _ 0 0 0 0) ?_;intro w3 hn3 hg3 hz3))
 go_simp
 have hv1:World.vb w3 (w2.heap.size+1) (vcs (arrV 1 2 [numV (2,0),txtV (mk [120])]) (.slice (some ⟨w2.heap.size,0,none⟩) 2 2) nilS nilS):=by simpa using hn3
 have hr2:World.vr w3 w2.heap.size (.slice (some ⟨w2.heap.size,0,none⟩) 2 2) [numV (2,0),txtV (mk [120])]:=World.ownsRow.kept (hr1.alloc (.cells vz 39)) hg3 (.inr (by simp[Value.ownBlock]))
 have hst:Below w.heap.size w w3:=(hs.alloc hs.size (.cells vz 39)).grown hg3 (by have:=hs.size;simp at this ⊢;omega) (fun k hk=>by cases hk;exact hs.size)
 obtain⟨g1,hg1⟩:∃g,g=w2.heap.size:=⟨_,rfl⟩
 obtain⟨b1,hb1⟩:∃b,b=g1+1:=⟨_,rfl⟩
 rw[←hg1]at hv1 hr2⊢
 rw[←hb1]at hv1⊢
 obtain⟨wa,hwa⟩:∃W,W=w3:=⟨_,rfl⟩
 rw[←hwa]at hv1 hr2 hst⊢
 have HV1:=Lib.hid (show World.vb wa b1 (vcs (arrV 1 2 [numV (2,0),txtV (mk [120])]) (.slice (some ⟨g1,0,none⟩) 2 2) nilS nilS)from hv1)
 have HR1:=Lib.hid (show World.vr wa g1 (.slice (some ⟨g1,0,none⟩) 2 2) [numV (2,0),txtV (mk [120])]from hr2)
 have HBa:=Lib.hid hst
 have HENa:=Lib.hid (show ∀W,Below wa.heap.size wa W→Env W from fun W hW=>HEN.out W (HBa.out.trans (hW.mono HBa.out.size)))
 clear hn3 hg3 hz3 hr1 hs hv1 hr2 hst hg1 hb1 hwa
 go_cut [2]from 20 to 27 (fun t wx=>∃b2,t= .pointer (some ⟨b2,0,none⟩)∧World.vb wx b2 (pcs (numV (7,0)))∧Below wa.heap.size wa wx∧wa.heap.size≤b2)
 case first=>
  refine wp_region_held_drew (S:=fun w9=>World.vb w9 b1 (vcs (arrV 1 2 [numV (2,0),txtV (mk [120])]) (.slice (some ⟨g1,0,none⟩) 2 2) nilS nilS)) (by kernel_rfl) HV1.out (fun hHeld=> ?_)
  refine tk 1 ⟨some 21,_,_,_,_,_⟩ ?_ hHeld ?_ ?_
  rotate_left
  ·(intro w9 hSw;refine yields34 (x:= .tmp 1) (g:=b1) (cs:=(vcs (arrV 1 2 [numV (2,0),txtV (mk [120])]) (.slice (some ⟨g1,0,none⟩) 2 2) nilS nilS)) ?_ ?_ rfl hSw<;>rfl)
  try simp only[Act.put,List.setIfInBounds_toArray,List.set_cons_zero,List.set_cons_succ]
  refine tk 3 ⟨some 23,_,_,_,_,_⟩ ?_ hHeld ?_ ?_
  rotate_left
  ·(intro w9 hSw;refine yields_tr (b:=true) ?_ trivial<;>rfl)
  try simp only[Act.put,List.setIfInBounds_toArray,List.set_cons_zero,List.set_cons_succ]
  refine tk 4 ⟨some 24,_,_,_,_,_⟩ ?_ hHeld ?_ ?_
  rotate_left
  ·(intro w9 hSw;refine yields_zero ?_<;>rfl)
  try simp only[Act.put,List.setIfInBounds_toArray,List.set_cons_zero,List.set_cons_succ]
  refine tk 6 ⟨some 26,_,_,_,_,_⟩ ?_ hHeld ?_ ?_
  rotate_left
  ·(intro w9 hSw;(try dsimp only at hSw);go_simp)
   all_goals with_reducible rfl
  try simp only[Act.put,List.setIfInBounds_toArray,List.set_cons_zero,List.set_cons_succ]
  have hs:Below wa.heap.size wa wa.drew:=(Below.refl _ _).drew
  refine wpAnyH_ready (rs:= [0,8]) (by kernel_rfl) (by simp) ?_
  refine(AllReadyH.cons (o:=⟨some 20,_,_,_,_,_⟩) rfl (fun KK hK=> ?_) (AllReadyH.cons (o:=⟨some 2,_,_,_,_,_⟩) rfl (fun KK hK=> ?_) AllReadyH.nil))
  ·(try rw[if_pos (by rfl)])
   go_simp
   refine(H1.out _).mono ?_
   rintro e x1 ⟨rfl,hb⟩
   (try have hv:=hv.below hb hv.lt)
   (try have hA:=hA.below hb hA.lt)
   have hs:=hs.trans (hb.mono hs.size)
   clear hb
   have hS:=HV1.out.below hs HV1.out.lt
   refine hK.out _ _ hS ?_
   clear hK KK hHeld
   intro hHeld
   try simp only[Act.put,List.setIfInBounds_toArray,List.set_cons_zero,List.set_cons_succ,List.getElem_toArray,List.getElem_cons_zero,List.getElem_cons_succ]
   refine wpAnyH_ready (rs:= [2,8]) (by kernel_rfl) (by simp) ?_
   refine(AllReadyH.cons (o:=⟨some 22,_,_,_,_,_⟩) rfl (fun KK hK=> ?_) (AllReadyH.cons (o:=⟨some 2,_,_,_,_,_⟩) rfl (fun KK hK=> ?_) AllReadyH.nil))
   ·(try rw[if_pos (by rfl)])
    go_simp
    refine(HT3.out _).mono ?_
    rintro e x2 ⟨rfl,hb⟩
    (try have hv:=hv.below hb hv.lt)
    (try have hA:=hA.below hb hA.lt)
    have hs:=hs.trans (hb.mono hs.size)
    clear hb
    have hS:=HV1.out.below hs HV1.out.lt
    refine hK.out _ _ hS ?_
    clear hK KK hHeld
    intro hHeld
    try simp only[Act.put,List.setIfInBounds_toArray,List.set_cons_zero,List.set_cons_succ,List.getElem_toArray,List.getElem_cons_zero,List.getElem_cons_succ]
    refine wpAnyH_ready (rs:= [5,8]) (by kernel_rfl) (by simp) ?_
    refine(AllReadyH.cons (o:=⟨some 25,_,_,_,_,_⟩) rfl (fun KK hK=> ?_) (AllReadyH.cons (o:=⟨some 2,_,_,_,_,_⟩) rfl (fun KK hK=> ?_) AllReadyH.nil))
    ·(try rw[if_pos (by rfl)])
     refine op_bslA5 rfl rfl rfl rfl rfl rfl ?_
     obtain⟨x3,hx3⟩:∃X,X=World.alloc x2 (.cells ([pcs (numV (1,0)),vcs (arrV 1 2 [numV (2,0),txtV (mk [120])]) (.slice (some ⟨g1,0,none⟩) 2 2) nilS nilS,pcs (txtV (mk [51])),pcs (trV true),pcs {}].flatMap (·.toList)).toArray 39):=⟨_,rfl⟩
     obtain⟨gA,hgA⟩:∃g,g=(x2).heap.size:=⟨_,rfl⟩
     have hA:World.vb x3 gA ([pcs (numV (1,0)),vcs (arrV 1 2 [numV (2,0),txtV (mk [120])]) (.slice (some ⟨g1,0,none⟩) 2 2) nilS nilS,pcs (txtV (mk [51])),pcs (trV true),pcs {}].flatMap (·.toList)).toArray:=by rw[hx3,hgA];exact World.vb_new _ _
     have hs:Below wa.heap.size wa x3:=by rw[hx3];exact hs.alloc hs.size _
     (try have hv:World.vb x3 b2 vz:=(by rw[hx3];exact hv.alloc _))
     rw[←hx3,←hgA]
     clear hx3 hgA
     have hS:=HV1.out.below hs HV1.out.lt
     refine hK.out _ _ hS ?_
     clear hK KK hHeld
     intro hHeld
     try simp only[Act.put,List.setIfInBounds_toArray,List.set_cons_zero,List.set_cons_succ]
     refine wpAnyH_ready (rs:= [7,8]) (by kernel_rfl) (by simp) ?_
     refine(AllReadyH.cons (o:=⟨some 27,_,_,_,_,_⟩) rfl (fun KK hK=> ?_) (AllReadyH.cons (o:=⟨some 2,_,_,_,_,_⟩) rfl (fun KK hK=> ?_) AllReadyH.nil))
     ·(try rw[if_pos (by rfl)])
      go_simp
      have hargs:=ex_args5 (World.vr.below HR1.out hs) hA
      refine(ex_sum _ _ nilS hargs (HENa.out _ hs)).mono ?_
      rintro e x4 ⟨rfl,hb⟩
      (try have hv:=hv.below hb hv.lt)
      have hs:=hs.trans (hb.mono hs.size)
      clear hb hA
      have hS:=HV1.out.below hs HV1.out.lt
      refine hK.out _ _ hS ?_
      clear hK KK hHeld
      intro hHeld
      try simp only[Act.put,List.setIfInBounds_toArray,List.set_cons_zero,List.set_cons_succ,List.getElem_toArray,List.getElem_cons_zero,List.getElem_cons_succ]
      refine wpAnyH_ready (rs:= [8]) (by kernel_rfl) (by simp) ?_
      refine(AllReadyH.cons (o:=⟨some 2,_,_,_,_,_⟩) rfl (fun KK hK=> ?_) AllReadyH.nil)
      ·(try rw[if_pos (by rfl)])
       refine op_alloc39v rfl ?_
       obtain⟨x5,hx5⟩:∃X,X=World.alloc x4 (.cells vz 39):=⟨_,rfl⟩
       obtain⟨b2,hb2⟩:∃g,g=(x4).heap.size:=⟨_,rfl⟩
       have hvl:wa.heap.size≤b2:=by rw[hb2];exact hs.size
       have hv:World.vb x5 b2 vz:=by rw[hx5,hb2];exact World.vb_new _ _
       (try have hA:World.vb x5 gA ([pcs (numV (1,0)),vcs (arrV 1 2 [numV (2,0),txtV (mk [120])]) (.slice (some ⟨g1,0,none⟩) 2 2) nilS nilS,pcs (txtV (mk [51])),pcs (trV true),pcs {}].flatMap (·.toList)).toArray:=(by rw[hx5];exact hA.alloc _))
       (try have hne:∀k,Lr.ownBlock=some k→k≠b2:=fun k hk=>(by have h1:=(World.ownsRow.lt hR k hk).2;omega))
       (try have hR:World.vr x5 wa.heap.size Lr LLR:=(by rw[hx5];exact hR.alloc _))
       have hs:Below wa.heap.size wa x5:=by rw[hx5];exact hs.alloc hs.size _
       rw[←hx5,←hb2]
       clear hx5 hb2
       have hS:=HV1.out.below hs HV1.out.lt
       refine hK.out _ _ hS ?_
       clear hK KK hHeld
       intro hHeld
       try simp only[Act.put,List.setIfInBounds_toArray,List.set_cons_zero,List.set_cons_succ]
       refine wpAnyH_ready (rs:= [9]) (by kernel_rfl) (by simp) ?_
       refine(AllReadyH.cons (o:=⟨none,_,_,_,_,_⟩) rfl (fun KK hK=> ?_) AllReadyH.nil)
       ·(try rw[if_pos (by rfl)])
        refine op_store39v rfl rfl rfl hv (by rfl) (pcs_one _) ?_
        intro x6 hn9 hg9 hz9
        have hs:=hs.grown hg9 hs.size (fun k hk=>by cases hk;exact hvl)
        have hS:=HV1.out.below hs HV1.out.lt
        refine hK.out _ _ hS ?_
        clear hK KK hHeld
        intro hHeld
        try simp only[Act.put]
        refine wpAnyH_done (by kernel_rfl) ?_ _
        try simp only[Act.put,List.setIfInBounds_toArray,List.set_cons_zero,List.set_cons_succ,List.getElem_toArray,List.getElem_cons_zero,List.getElem_cons_succ]
        go_wp2_with fail
        go_meet
        exact⟨b2,rfl,hn9,hs,hvl⟩
     ·(try rw[if_pos (by rfl)])
      refine op_alloc39v rfl ?_
      obtain⟨x4,hx4⟩:∃X,X=World.alloc x3 (.cells vz 39):=⟨_,rfl⟩
      obtain⟨b2,hb2⟩:∃g,g=(x3).heap.size:=⟨_,rfl⟩
      have hvl:wa.heap.size≤b2:=by rw[hb2];exact hs.size
      have hv:World.vb x4 b2 vz:=by rw[hx4,hb2];exact World.vb_new _ _
      (try have hA:World.vb x4 gA ([pcs (numV (1,0)),vcs (arrV 1 2 [numV (2,0),txtV (mk [120])]) (.slice (some ⟨g1,0,none⟩) 2 2) nilS nilS,pcs (txtV (mk [51])),pcs (trV true),pcs {}].flatMap (·.toList)).toArray:=(by rw[hx4];exact hA.alloc _))
      (try have hne:∀k,Lr.ownBlock=some k→k≠b2:=fun k hk=>(by have h1:=(World.ownsRow.lt hR k hk).2;omega))
      (try have hR:World.vr x4 wa.heap.size Lr LLR:=(by rw[hx4];exact hR.alloc _))
      have hs:Below wa.heap.size wa x4:=by rw[hx4];exact hs.alloc hs.size _
      rw[←hx4,←hb2]
      clear hx4 hb2
      have hS:=HV1.out.below hs HV1.out.lt
      refine hK.out _ _ hS ?_
      clear hK KK hHeld
      intro hHeld
      try simp only[Act.put,List.setIfInBounds_toArray,List.set_cons_zero,List.set_cons_succ]
      refine wpAnyH_ready (rs:= [7]) (by kernel_rfl) (by simp) ?_
      refine(AllReadyH.cons (o:=⟨some 27,_,_,_,_,_⟩) rfl (fun KK hK=> ?_) AllReadyH.nil)
      ·(try rw[if_pos (by rfl)])
       go_simp
       have hargs:=ex_args5 (World.vr.below HR1.out hs) hA
       refine(ex_sum _ _ nilS hargs (HENa.out _ hs)).mono ?_
       rintro e x5 ⟨rfl,hb⟩
       (try have hv:=hv.below hb hv.lt)
       have hs:=hs.trans (hb.mono hs.size)
       clear hb hA
       have hS:=HV1.out.below hs HV1.out.lt
       refine hK.out _ _ hS ?_
       clear hK KK hHeld
       intro hHeld
       try simp only[Act.put,List.setIfInBounds_toArray,List.set_cons_zero,List.set_cons_succ,List.getElem_toArray,List.getElem_cons_zero,List.getElem_cons_succ]
       refine wpAnyH_ready (rs:= [9]) (by kernel_rfl) (by simp) ?_
       refine(AllReadyH.cons (o:=⟨none,_,_,_,_,_⟩) rfl (fun KK hK=> ?_) AllReadyH.nil)
       ·(try rw[if_pos (by rfl)])
        refine op_store39v rfl rfl rfl hv (by rfl) (pcs_one _) ?_
        intro x6 hn9 hg9 hz9
        have hs:=hs.grown hg9 hs.size (fun k hk=>by cases hk;exact hvl)
        have hS:=HV1.out.below hs HV1.out.lt
        refine hK.out _ _ hS ?_
        clear hK KK hHeld
        intro hHeld
        try simp only[Act.put]
        refine wpAnyH_done (by kernel_rfl) ?_ _
        try simp only[Act.put,List.setIfInBounds_toArray,List.set_cons_zero,List.set_cons_succ,List.getElem_toArray,List.getElem_cons_zero,List.getElem_cons_succ]
        go_wp2_with fail
        go_meet
        exact⟨b2,rfl,hn9,hs,hvl⟩
    ·(try rw[if_pos (by rfl)])
     refine op_alloc39v rfl ?_
     obtain⟨x3,hx3⟩:∃X,X=World.alloc x2 (.cells vz 39):=⟨_,rfl⟩
     obtain⟨b2,hb2⟩:∃g,g=(x2).heap.size:=⟨_,rfl⟩
     have hvl:wa.heap.size≤b2:=by rw[hb2];exact hs.size
     have hv:World.vb x3 b2 vz:=by rw[hx3,hb2];exact World.vb_new _ _
     (try have hA:World.vb x3 gA ([pcs (numV (1,0)),vcs (arrV 1 2 [numV (2,0),txtV (mk [120])]) (.slice (some ⟨g1,0,none⟩) 2 2) nilS nilS,pcs (txtV (mk [51])),pcs (trV true),pcs {}].flatMap (·.toList)).toArray:=(by rw[hx3];exact hA.alloc _))
     (try have hne:∀k,Lr.ownBlock=some k→k≠b2:=fun k hk=>(by have h1:=(World.ownsRow.lt hR k hk).2;omega))
     (try have hR:World.vr x3 wa.heap.size Lr LLR:=(by rw[hx3];exact hR.alloc _))
     have hs:Below wa.heap.size wa x3:=by rw[hx3];exact hs.alloc hs.size _
     rw[←hx3,←hb2]
     clear hx3 hb2
     have hS:=HV1.out.below hs HV1.out.lt
     refine hK.out _ _ hS ?_
     clear hK KK hHeld
     intro hHeld
     try simp only[Act.put,List.setIfInBounds_toArray,List.set_cons_zero,List.set_cons_succ]
     refine wpAnyH_ready (rs:= [5]) (by kernel_rfl) (by simp) ?_
     refine(AllReadyH.cons (o:=⟨some 25,_,_,_,_,_⟩) rfl (fun KK hK=> ?_) AllReadyH.nil)
     ·(try rw[if_pos (by rfl)])
      refine op_bslA5 rfl rfl rfl rfl rfl rfl ?_
      obtain⟨x4,hx4⟩:∃X,X=World.alloc x3 (.cells ([pcs (numV (1,0)),vcs (arrV 1 2 [numV (2,0),txtV (mk [120])]) (.slice (some ⟨g1,0,none⟩) 2 2) nilS nilS,pcs (txtV (mk [51])),pcs (trV true),pcs {}].flatMap (·.toList)).toArray 39):=⟨_,rfl⟩
      obtain⟨gA,hgA⟩:∃g,g=(x3).heap.size:=⟨_,rfl⟩
      have hA:World.vb x4 gA ([pcs (numV (1,0)),vcs (arrV 1 2 [numV (2,0),txtV (mk [120])]) (.slice (some ⟨g1,0,none⟩) 2 2) nilS nilS,pcs (txtV (mk [51])),pcs (trV true),pcs {}].flatMap (·.toList)).toArray:=by rw[hx4,hgA];exact World.vb_new _ _
      have hs:Below wa.heap.size wa x4:=by rw[hx4];exact hs.alloc hs.size _
      (try have hv:World.vb x4 b2 vz:=(by rw[hx4];exact hv.alloc _))
      rw[←hx4,←hgA]
      clear hx4 hgA
      have hS:=HV1.out.below hs HV1.out.lt
      refine hK.out _ _ hS ?_
      clear hK KK hHeld
      intro hHeld
      try simp only[Act.put,List.setIfInBounds_toArray,List.set_cons_zero,List.set_cons_succ]
      refine wpAnyH_ready (rs:= [7]) (by kernel_rfl) (by simp) ?_
      refine(AllReadyH.cons (o:=⟨some 27,_,_,_,_,_⟩) rfl (fun KK hK=> ?_) AllReadyH.nil)
      ·(try rw[if_pos (by rfl)])
       go_simp
       have hargs:=ex_args5 (World.vr.below HR1.out hs) hA
       refine(ex_sum _ _ nilS hargs (HENa.out _ hs)).mono ?_
       rintro e x5 ⟨rfl,hb⟩
       (try have hv:=hv.below hb hv.lt)
       have hs:=hs.trans (hb.mono hs.size)
       clear hb hA
       have hS:=HV1.out.below hs HV1.out.lt
       refine hK.out _ _ hS ?_
       clear hK KK hHeld
       intro hHeld
       try simp only[Act.put,List.setIfInBounds_toArray,List.set_cons_zero,List.set_cons_succ,List.getElem_toArray,List.getElem_cons_zero,List.getElem_cons_succ]
       refine wpAnyH_ready (rs:= [9]) (by kernel_rfl) (by simp) ?_
       refine(AllReadyH.cons (o:=⟨none,_,_,_,_,_⟩) rfl (fun KK hK=> ?_) AllReadyH.nil)
       ·(try rw[if_pos (by rfl)])
        refine op_store39v rfl rfl rfl hv (by rfl) (pcs_one _) ?_
        intro x6 hn9 hg9 hz9
        have hs:=hs.grown hg9 hs.size (fun k hk=>by cases hk;exact hvl)
        have hS:=HV1.out.below hs HV1.out.lt
        refine hK.out _ _ hS ?_
        clear hK KK hHeld
        intro hHeld
        try simp only[Act.put]
        refine wpAnyH_done (by kernel_rfl) ?_ _
        try simp only[Act.put,List.setIfInBounds_toArray,List.set_cons_zero,List.set_cons_succ,List.getElem_toArray,List.getElem_cons_zero,List.getElem_cons_succ]
        go_wp2_with fail
        go_meet
        exact⟨b2,rfl,hn9,hs,hvl⟩
   ·(try rw[if_pos (by rfl)])
    refine op_alloc39v rfl ?_
    obtain⟨x2,hx2⟩:∃X,X=World.alloc x1 (.cells vz 39):=⟨_,rfl⟩
    obtain⟨b2,hb2⟩:∃g,g=(x1).heap.size:=⟨_,rfl⟩
    have hvl:wa.heap.size≤b2:=by rw[hb2];exact hs.size
    have hv:World.vb x2 b2 vz:=by rw[hx2,hb2];exact World.vb_new _ _
    (try have hA:World.vb x2 gA ([pcs (numV (1,0)),vcs (arrV 1 2 [numV (2,0),txtV (mk [120])]) (.slice (some ⟨g1,0,none⟩) 2 2) nilS nilS,pcs (txtV (mk [51])),pcs (trV true),pcs {}].flatMap (·.toList)).toArray:=(by rw[hx2];exact hA.alloc _))
    (try have hne:∀k,Lr.ownBlock=some k→k≠b2:=fun k hk=>(by have h1:=(World.ownsRow.lt hR k hk).2;omega))
    (try have hR:World.vr x2 wa.heap.size Lr LLR:=(by rw[hx2];exact hR.alloc _))
    have hs:Below wa.heap.size wa x2:=by rw[hx2];exact hs.alloc hs.size _
    rw[←hx2,←hb2]
    clear hx2 hb2
    have hS:=HV1.out.below hs HV1.out.lt
    refine hK.out _ _ hS ?_
    clear hK KK hHeld
    intro hHeld
    try simp only[Act.put,List.setIfInBounds_toArray,List.set_cons_zero,List.set_cons_succ]
    refine wpAnyH_ready (rs:= [2]) (by kernel_rfl) (by simp) ?_
    refine(AllReadyH.cons (o:=⟨some 22,_,_,_,_,_⟩) rfl (fun KK hK=> ?_) AllReadyH.nil)
    ·(try rw[if_pos (by rfl)])
     go_simp
     refine(HT3.out _).mono ?_
     rintro e x3 ⟨rfl,hb⟩
     (try have hv:=hv.below hb hv.lt)
     (try have hA:=hA.below hb hA.lt)
     have hs:=hs.trans (hb.mono hs.size)
     clear hb
     have hS:=HV1.out.below hs HV1.out.lt
     refine hK.out _ _ hS ?_
     clear hK KK hHeld
     intro hHeld
     try simp only[Act.put,List.setIfInBounds_toArray,List.set_cons_zero,List.set_cons_succ,List.getElem_toArray,List.getElem_cons_zero,List.getElem_cons_succ]
     refine wpAnyH_ready (rs:= [5]) (by kernel_rfl) (by simp) ?_
     refine(AllReadyH.cons (o:=⟨some 25,_,_,_,_,_⟩) rfl (fun KK hK=> ?_) AllReadyH.nil)
     ·(try rw[if_pos (by rfl)])
      refine op_bslA5 rfl rfl rfl rfl rfl rfl ?_
      obtain⟨x4,hx4⟩:∃X,X=World.alloc x3 (.cells ([pcs (numV (1,0)),vcs (arrV 1 2 [numV (2,0),txtV (mk [120])]) (.slice (some ⟨g1,0,none⟩) 2 2) nilS nilS,pcs (txtV (mk [51])),pcs (trV true),pcs {}].flatMap (·.toList)).toArray 39):=⟨_,rfl⟩
      obtain⟨gA,hgA⟩:∃g,g=(x3).heap.size:=⟨_,rfl⟩
      have hA:World.vb x4 gA ([pcs (numV (1,0)),vcs (arrV 1 2 [numV (2,0),txtV (mk [120])]) (.slice (some ⟨g1,0,none⟩) 2 2) nilS nilS,pcs (txtV (mk [51])),pcs (trV true),pcs {}].flatMap (·.toList)).toArray:=by rw[hx4,hgA];exact World.vb_new _ _
      have hs:Below wa.heap.size wa x4:=by rw[hx4];exact hs.alloc hs.size _
      (try have hv:World.vb x4 b2 vz:=(by rw[hx4];exact hv.alloc _))
      rw[←hx4,←hgA]
      clear hx4 hgA
      have hS:=HV1.out.below hs HV1.out.lt
      refine hK.out _ _ hS ?_
      clear hK KK hHeld
      intro hHeld
      try simp only[Act.put,List.setIfInBounds_toArray,List.set_cons_zero,List.set_cons_succ]
      refine wpAnyH_ready (rs:= [7]) (by kernel_rfl) (by simp) ?_
      refine(AllReadyH.cons (o:=⟨some 27,_,_,_,_,_⟩) rfl (fun KK hK=> ?_) AllReadyH.nil)
      ·(try rw[if_pos (by rfl)])
       go_simp
       have hargs:=ex_args5 (World.vr.below HR1.out hs) hA
       refine(ex_sum _ _ nilS hargs (HENa.out _ hs)).mono ?_
       rintro e x5 ⟨rfl,hb⟩
       (try have hv:=hv.below hb hv.lt)
       have hs:=hs.trans (hb.mono hs.size)
       clear hb hA
       have hS:=HV1.out.below hs HV1.out.lt
       refine hK.out _ _ hS ?_
       clear hK KK hHeld
       intro hHeld
       try simp only[Act.put,List.setIfInBounds_toArray,List.set_cons_zero,List.set_cons_succ,List.getElem_toArray,List.getElem_cons_zero,List.getElem_cons_succ]
       refine wpAnyH_ready (rs:= [9]) (by kernel_rfl) (by simp) ?_
       refine(AllReadyH.cons (o:=⟨none,_,_,_,_,_⟩) rfl (fun KK hK=> ?_) AllReadyH.nil)
       ·(try rw[if_pos (by rfl)])
        refine op_store39v rfl rfl rfl hv (by rfl) (pcs_one _) ?_
        intro x6 hn9 hg9 hz9
        have hs:=hs.grown hg9 hs.size (fun k hk=>by cases hk;exact hvl)
        have hS:=HV1.out.below hs HV1.out.lt
        refine hK.out _ _ hS ?_
        clear hK KK hHeld
        intro hHeld
        try simp only[Act.put]
        refine wpAnyH_done (by kernel_rfl) ?_ _
        try simp only[Act.put,List.setIfInBounds_toArray,List.set_cons_zero,List.set_cons_succ,List.getElem_toArray,List.getElem_cons_zero,List.getElem_cons_succ]
        go_wp2_with fail
        go_meet
        exact⟨b2,rfl,hn9,hs,hvl⟩
  ·(try rw[if_pos (by rfl)])
   refine op_alloc39v rfl ?_
   obtain⟨x1,hx1⟩:∃X,X=World.alloc wa.drew (.cells vz 39):=⟨_,rfl⟩
   obtain⟨b2,hb2⟩:∃g,g=(wa.drew).heap.size:=⟨_,rfl⟩
   have hvl:wa.heap.size≤b2:=by rw[hb2];exact hs.size
   have hv:World.vb x1 b2 vz:=by rw[hx1,hb2];exact World.vb_new _ _
   (try have hA:World.vb x1 gA ([pcs (numV (1,0)),vcs (arrV 1 2 [numV (2,0),txtV (mk [120])]) (.slice (some ⟨g1,0,none⟩) 2 2) nilS nilS,pcs (txtV (mk [51])),pcs (trV true),pcs {}].flatMap (·.toList)).toArray:=(by rw[hx1];exact hA.alloc _))
   (try have hne:∀k,Lr.ownBlock=some k→k≠b2:=fun k hk=>(by have h1:=(World.ownsRow.lt hR k hk).2;omega))
   (try have hR:World.vr x1 wa.heap.size Lr LLR:=(by rw[hx1];exact hR.alloc _))
   have hs:Below wa.heap.size wa x1:=by rw[hx1];exact hs.alloc hs.size _
   rw[←hx1,←hb2]
   clear hx1 hb2
   have hS:=HV1.out.below hs HV1.out.lt
   refine hK.out _ _ hS ?_
   clear hK KK hHeld
   intro hHeld
   try simp only[Act.put,List.setIfInBounds_toArray,List.set_cons_zero,List.set_cons_succ]
   refine wpAnyH_ready (rs:= [0]) (by kernel_rfl) (by simp) ?_
   refine(AllReadyH.cons (o:=⟨some 20,_,_,_,_,_⟩) rfl (fun KK hK=> ?_) AllReadyH.nil)
   ·(try rw[if_pos (by rfl)])
    go_simp
    refine(H1.out _).mono ?_
    rintro e x2 ⟨rfl,hb⟩
    (try have hv:=hv.below hb hv.lt)
    (try have hA:=hA.below hb hA.lt)
    have hs:=hs.trans (hb.mono hs.size)
    clear hb
    have hS:=HV1.out.below hs HV1.out.lt
    refine hK.out _ _ hS ?_
    clear hK KK hHeld
    intro hHeld
    try simp only[Act.put,List.setIfInBounds_toArray,List.set_cons_zero,List.set_cons_succ,List.getElem_toArray,List.getElem_cons_zero,List.getElem_cons_succ]
    refine wpAnyH_ready (rs:= [2]) (by kernel_rfl) (by simp) ?_
    refine(AllReadyH.cons (o:=⟨some 22,_,_,_,_,_⟩) rfl (fun KK hK=> ?_) AllReadyH.nil)
    ·(try rw[if_pos (by rfl)])
     go_simp
     refine(HT3.out _).mono ?_
     rintro e x3 ⟨rfl,hb⟩
     (try have hv:=hv.below hb hv.lt)
     (try have hA:=hA.below hb hA.lt)
     have hs:=hs.trans (hb.mono hs.size)
     clear hb
     have hS:=HV1.out.below hs HV1.out.lt
     refine hK.out _ _ hS ?_
     clear hK KK hHeld
     intro hHeld
     try simp only[Act.put,List.setIfInBounds_toArray,List.set_cons_zero,List.set_cons_succ,List.getElem_toArray,List.getElem_cons_zero,List.getElem_cons_succ]
     refine wpAnyH_ready (rs:= [5]) (by kernel_rfl) (by simp) ?_
     refine(AllReadyH.cons (o:=⟨some 25,_,_,_,_,_⟩) rfl (fun KK hK=> ?_) AllReadyH.nil)
     ·(try rw[if_pos (by rfl)])
      refine op_bslA5 rfl rfl rfl rfl rfl rfl ?_
      obtain⟨x4,hx4⟩:∃X,X=World.alloc x3 (.cells ([pcs (numV (1,0)),vcs (arrV 1 2 [numV (2,0),txtV (mk [120])]) (.slice (some ⟨g1,0,none⟩) 2 2) nilS nilS,pcs (txtV (mk [51])),pcs (trV true),pcs {}].flatMap (·.toList)).toArray 39):=⟨_,rfl⟩
      obtain⟨gA,hgA⟩:∃g,g=(x3).heap.size:=⟨_,rfl⟩
      have hA:World.vb x4 gA ([pcs (numV (1,0)),vcs (arrV 1 2 [numV (2,0),txtV (mk [120])]) (.slice (some ⟨g1,0,none⟩) 2 2) nilS nilS,pcs (txtV (mk [51])),pcs (trV true),pcs {}].flatMap (·.toList)).toArray:=by rw[hx4,hgA];exact World.vb_new _ _
      have hs:Below wa.heap.size wa x4:=by rw[hx4];exact hs.alloc hs.size _
      (try have hv:World.vb x4 b2 vz:=(by rw[hx4];exact hv.alloc _))
      rw[←hx4,←hgA]
      clear hx4 hgA
      have hS:=HV1.out.below hs HV1.out.lt
      refine hK.out _ _ hS ?_
      clear hK KK hHeld
      intro hHeld
      try simp only[Act.put,List.setIfInBounds_toArray,List.set_cons_zero,List.set_cons_succ]
      refine wpAnyH_ready (rs:= [7]) (by kernel_rfl) (by simp) ?_
      refine(AllReadyH.cons (o:=⟨some 27,_,_,_,_,_⟩) rfl (fun KK hK=> ?_) AllReadyH.nil)
      ·(try rw[if_pos (by rfl)])
       go_simp
       have hargs:=ex_args5 (World.vr.below HR1.out hs) hA
       refine(ex_sum _ _ nilS hargs (HENa.out _ hs)).mono ?_
       rintro e x5 ⟨rfl,hb⟩
       (try have hv:=hv.below hb hv.lt)
       have hs:=hs.trans (hb.mono hs.size)
       clear hb hA
       have hS:=HV1.out.below hs HV1.out.lt
       refine hK.out _ _ hS ?_
       clear hK KK hHeld
       intro hHeld
       try simp only[Act.put,List.setIfInBounds_toArray,List.set_cons_zero,List.set_cons_succ,List.getElem_toArray,List.getElem_cons_zero,List.getElem_cons_succ]
       refine wpAnyH_ready (rs:= [9]) (by kernel_rfl) (by simp) ?_
       refine(AllReadyH.cons (o:=⟨none,_,_,_,_,_⟩) rfl (fun KK hK=> ?_) AllReadyH.nil)
       ·(try rw[if_pos (by rfl)])
        refine op_store39v rfl rfl rfl hv (by rfl) (pcs_one _) ?_
        intro x6 hn9 hg9 hz9
        have hs:=hs.grown hg9 hs.size (fun k hk=>by cases hk;exact hvl)
        have hS:=HV1.out.below hs HV1.out.lt
        refine hK.out _ _ hS ?_
        clear hK KK hHeld
        intro hHeld
        try simp only[Act.put]
        refine wpAnyH_done (by kernel_rfl) ?_ _
        try simp only[Act.put,List.setIfInBounds_toArray,List.set_cons_zero,List.set_cons_succ,List.getElem_toArray,List.getElem_cons_zero,List.getElem_cons_succ]
        go_wp2_with fail
        go_meet
        exact⟨b2,rfl,hn9,hs,hvl⟩
 case rest=>
  obtain⟨b2,rfl,hv2,hst,hb2l⟩:=hcut
  obtain⟨wb,hwb⟩:∃W,W=wc:=⟨_,rfl⟩
  subst hwb
  have HV2:=Lib.hid hv2
  have HBa:=Lib.hid (HBa.out.trans (hst.mono HBa.out.size))
  have HENb:=Lib.hid (show ∀W,Below wb.heap.size wb W→Env W from fun W hW=>HEN.out W (HBa.out.trans (hW.mono HBa.out.size)))
  clear hv2 hst hb2l HV1 HR1 HENa
  go_upto_region 4 with (first|(go_at_call 24;refine(HHE.out _).mono ?_;rintro e w1 ⟨rfl,hs⟩)|(go_at_call 23;go_fit (H2.out _);rintro e w2 ⟨rfl,hb⟩;have hs:=hs.trans (hb.mono hs.size))|(go_at_call 23;go_fit (H3.out _);rintro e w4 ⟨rfl,hb⟩;have hs:=hs.trans (hb.mono hs.size))|(refine wpList_bsl3 rfl rfl rfl rfl rfl ?_;have hrow:=vr_blk (World.vb_new w4 (vsC [txtV (mk [104,195,169,108,108,111]),numV (2,0),numV (3,0)]).toArray) (by decide);have hs:=hs.alloc hs.size (.cells (vsC [txtV (mk [104,195,169,108,108,111]),numV (2,0),numV (3,0)]).toArray 39))|(go_at_call 18;refine(ex_mid _ _ hrow (HENb.out _ hs)).mono ?_;rintro e w5 ⟨rfl,hb⟩;have hs:=hs.trans (hb.mono hs.size))|refine wpList_alloc34 rfl rfl ?_|(refine wpList_store34 rfl rfl rfl rfl (World.vb_new' _ vz _ rfl) (by rfl) (pcs_one _) ?_;intro w6 hn6 hg6 hz6))
  go_simp
  have hst:Below wb.heap.size wb w6:=(hs.alloc hs.size (.cells vz 39)).grown hg6 (by have:=hs.size;simp;omega) (fun k hk=>by cases hk;exact hs.size)
  have HV3:=Lib.hid (show World.vb w6 w5.heap.size (pcs (txtV (mk [195,169,108,108])))from hn6)
  obtain⟨b3,hb3⟩:∃b,b=w5.heap.size:=⟨_,rfl⟩
  rw[←hb3]at HV3⊢
  have HV2:=Lib.hid (HV2.out.below hst HV2.out.lt)
  have HBa:=Lib.hid (HBa.out.trans (hst.mono HBa.out.size))
  clear hn6 hg6 hz6 hs hst hb3 HENb hrow
  go_upto_region 5 with (first|refine wpList_build_num rfl rfl (by rfl) ?_|(refine wpList_bsl2 rfl rfl rfl rfl ?_;have hr1:=vr_blk (World.vb_new w6 (vsC [numV (125,-2),numV (25,-1)]).toArray) (by decide))|refine wpList_buildA [numV (125,-2),numV (25,-1)] rfl rfl rfl rfl rfl ?_|refine wpList_alloc34 rfl rfl ?_|(refine wpList_store34 rfl rfl rfl rfl (World.vb_new' _ vz _ (by simp)) (by rfl) (vcs_one _ _ none none _ _ 0 0 0 0) ?_;intro w7 hn7 hg7 hz7))
  go_simp
  have hv4:World.vb w7 (w6.heap.size+1) (vcs (arrV 2 1 [numV (125,-2),numV (25,-1)]) (.slice (some ⟨w6.heap.size,0,none⟩) 2 2) nilS nilS):=by simpa using hn7
  have hr4:World.vr w7 w6.heap.size (.slice (some ⟨w6.heap.size,0,none⟩) 2 2) [numV (125,-2),numV (25,-1)]:=World.ownsRow.kept (hr1.alloc (.cells vz 39)) hg7 (.inr (by simp[Value.ownBlock]))
  have hst:Below w6.heap.size w6 w7:=(((Below.refl _ w6).alloc (Nat.le_refl _) (.cells (vsC [numV (125,-2),numV (25,-1)]).toArray 39)).alloc (by simp) (.cells vz 39)).grown hg7 (by simp;omega) (fun k hk=>by cases hk;simp)
  obtain⟨g4,hg4⟩:∃g,g=w6.heap.size:=⟨_,rfl⟩
  obtain⟨b4,hb4⟩:∃b,b=g4+1:=⟨_,rfl⟩
  have HV2:=Lib.hid (HV2.out.below hst HV2.out.lt)
  have HV3:=Lib.hid (HV3.out.below hst HV3.out.lt)
  have HBa:=Lib.hid (HBa.out.trans (hst.mono HBa.out.size))
  rw[←hg4]at hv4 hr4⊢
  rw[←hb4]at hv4⊢
  obtain⟨wd,hwd⟩:∃W,W=w7:=⟨_,rfl⟩
  rw[←hwd]at hv4 hr4 HBa HV2 HV3⊢
  have HV4:=Lib.hid (show World.vb wd b4 (vcs (arrV 2 1 [numV (125,-2),numV (25,-1)]) (.slice (some ⟨g4,0,none⟩) 2 2) nilS nilS)from hv4)
  have HR4:=Lib.hid (show World.vr wd g4 (.slice (some ⟨g4,0,none⟩) 2 2) [numV (125,-2),numV (25,-1)]from hr4)
  have HENd:=Lib.hid (show ∀W,Below wd.heap.size wd W→Env W from fun W hW=>HEN.out W (HBa.out.trans (hW.mono HBa.out.size)))
  obtain⟨LLR,hLLR⟩:∃l,l= [numV (13,-1),numV (25,-1)]:=⟨_,rfl⟩
  have HLR:=Lib.hid hLLR
  clear hn7 hg7 hz7 hr1 hv4 hr4 hst hg4 hb4 hwd hLLR
  go_cut [5]from 40 to 44 (fun t wx=>∃b2 Lr,t= .pointer (some ⟨b2,0,none⟩)∧World.vb wx b2 (vcs (arrV 2 1 LLR) Lr nilS nilS)∧World.vr wx wd.heap.size Lr LLR∧Below wd.heap.size wd wx∧wd.heap.size≤b2)
  case first=>
   refine wp_region_held_drew (S:=fun w9=>World.vb w9 b4 (vcs (arrV 2 1 [numV (125,-2),numV (25,-1)]) (.slice (some ⟨g4,0,none⟩) 2 2) nilS nilS)) (by kernel_rfl) HV4.out (fun hHeld=> ?_)
   refine tk 0 ⟨some 40,_,_,_,_,_⟩ ?_ hHeld ?_ ?_
   rotate_left
   ·(intro w9 hSw;refine yields34 (x:= .tmp 4) (g:=b4) (cs:=(vcs (arrV 2 1 [numV (125,-2),numV (25,-1)]) (.slice (some ⟨g4,0,none⟩) 2 2) nilS nilS)) ?_ ?_ rfl hSw<;>rfl)
   try simp only[Act.put,List.setIfInBounds_toArray,List.set_cons_zero,List.set_cons_succ]
   refine tk 3 ⟨some 43,_,_,_,_,_⟩ ?_ hHeld ?_ ?_
   rotate_left
   ·(intro w9 hSw;(try dsimp only at hSw);go_simp)
    all_goals with_reducible rfl
   try simp only[Act.put,List.setIfInBounds_toArray,List.set_cons_zero,List.set_cons_succ]
   have hs:Below wd.heap.size wd wd.drew:=(Below.refl _ _).drew
   refine wpAnyH_ready (rs:= [1,5]) (by kernel_rfl) (by simp) ?_
   refine(AllReadyH.cons (o:=⟨some 41,_,_,_,_,_⟩) rfl (fun KK hK=> ?_) (AllReadyH.cons (o:=⟨some 5,_,_,_,_,_⟩) rfl (fun KK hK=> ?_) AllReadyH.nil))
   ·(try rw[if_pos (by rfl)])
    go_simp
    refine(H1.out _).mono ?_
    rintro e x1 ⟨rfl,hb⟩
    (try have hv:=hv.below hb hv.lt)
    (try have hA:=hA.below hb hA.lt)
    have hs:=hs.trans (hb.mono hs.size)
    clear hb
    have hS:=HV4.out.below hs HV4.out.lt
    refine hK.out _ _ hS ?_
    clear hK KK hHeld
    intro hHeld
    try simp only[Act.put,List.setIfInBounds_toArray,List.set_cons_zero,List.set_cons_succ,List.getElem_toArray,List.getElem_cons_zero,List.getElem_cons_succ]
    refine wpAnyH_ready (rs:= [2,5]) (by kernel_rfl) (by simp) ?_
    refine(AllReadyH.cons (o:=⟨some 42,_,_,_,_,_⟩) rfl (fun KK hK=> ?_) (AllReadyH.cons (o:=⟨some 5,_,_,_,_,_⟩) rfl (fun KK hK=> ?_) AllReadyH.nil))
    ·(try rw[if_pos (by rfl)])
     refine op_bslA2 rfl rfl rfl ?_
     obtain⟨x2,hx2⟩:∃X,X=World.alloc x1 (.cells ([vcs (arrV 2 1 [numV (125,-2),numV (25,-1)]) (.slice (some ⟨g4,0,none⟩) 2 2) nilS nilS,pcs (numV (1,0))].flatMap (·.toList)).toArray 39):=⟨_,rfl⟩
     obtain⟨gA,hgA⟩:∃g,g=(x1).heap.size:=⟨_,rfl⟩
     have hA:World.vb x2 gA ([vcs (arrV 2 1 [numV (125,-2),numV (25,-1)]) (.slice (some ⟨g4,0,none⟩) 2 2) nilS nilS,pcs (numV (1,0))].flatMap (·.toList)).toArray:=by rw[hx2,hgA];exact World.vb_new _ _
     have hs:Below wd.heap.size wd x2:=by rw[hx2];exact hs.alloc hs.size _
     (try have hv:World.vb x2 b2 vz:=(by rw[hx2];exact hv.alloc _))
     rw[←hx2,←hgA]
     clear hx2 hgA
     have hS:=HV4.out.below hs HV4.out.lt
     refine hK.out _ _ hS ?_
     clear hK KK hHeld
     intro hHeld
     try simp only[Act.put,List.setIfInBounds_toArray,List.set_cons_zero,List.set_cons_succ]
     refine wpAnyH_ready (rs:= [4,5]) (by kernel_rfl) (by simp) ?_
     refine(AllReadyH.cons (o:=⟨some 44,_,_,_,_,_⟩) rfl (fun KK hK=> ?_) (AllReadyH.cons (o:=⟨some 5,_,_,_,_,_⟩) rfl (fun KK hK=> ?_) AllReadyH.nil))
     ·(try rw[if_pos (by rfl)])
      go_simp
      have hargs:=ex_args2 (World.vr.below HR4.out hs) hA
      refine(ex_round _ _ hargs (HENd.out _ hs)).mono ?_
      rintro e x3 ⟨Lr,rfl,hR,hb⟩
      (try have hne:∀k,Lr.ownBlock=some k→k≠b2:=fun k hk=>(by have h1:=(World.ownsRow.lt hR k hk).1;have h2:=hv.lt;omega))
      have hR:World.vr _ wd.heap.size Lr LLR:=(by rw[←HLR.out]at hR;exact hR.mono hs.size)
      have HOR:Hid (OneC (vcs (arrV 2 1 LLR) Lr nilS nilS)):=Lib.hid (vr_one (r:=2) (c:=1) (l:=LLR) hR)
      rw[←HLR.out]
      (try have hv:=hv.below hb hv.lt)
      have hs:=hs.trans (hb.mono hs.size)
      clear hb hA
      have hS:=HV4.out.below hs HV4.out.lt
      refine hK.out _ _ hS ?_
      clear hK KK hHeld
      intro hHeld
      try simp only[Act.put,List.setIfInBounds_toArray,List.set_cons_zero,List.set_cons_succ,List.getElem_toArray,List.getElem_cons_zero,List.getElem_cons_succ]
      refine wpAnyH_ready (rs:= [5]) (by kernel_rfl) (by simp) ?_
      refine(AllReadyH.cons (o:=⟨some 5,_,_,_,_,_⟩) rfl (fun KK hK=> ?_) AllReadyH.nil)
      ·(try rw[if_pos (by rfl)])
       refine op_alloc39v rfl ?_
       obtain⟨x4,hx4⟩:∃X,X=World.alloc x3 (.cells vz 39):=⟨_,rfl⟩
       obtain⟨b2,hb2⟩:∃g,g=(x3).heap.size:=⟨_,rfl⟩
       have hvl:wd.heap.size≤b2:=by rw[hb2];exact hs.size
       have hv:World.vb x4 b2 vz:=by rw[hx4,hb2];exact World.vb_new _ _
       (try have hA:World.vb x4 gA ([vcs (arrV 2 1 [numV (125,-2),numV (25,-1)]) (.slice (some ⟨g4,0,none⟩) 2 2) nilS nilS,pcs (numV (1,0))].flatMap (·.toList)).toArray:=(by rw[hx4];exact hA.alloc _))
       (try have hne:∀k,Lr.ownBlock=some k→k≠b2:=fun k hk=>(by have h1:=(World.ownsRow.lt hR k hk).2;omega))
       (try have hR:World.vr x4 wd.heap.size Lr LLR:=(by rw[hx4];exact hR.alloc _))
       have hs:Below wd.heap.size wd x4:=by rw[hx4];exact hs.alloc hs.size _
       rw[←hx4,←hb2]
       clear hx4 hb2
       have hS:=HV4.out.below hs HV4.out.lt
       refine hK.out _ _ hS ?_
       clear hK KK hHeld
       intro hHeld
       try simp only[Act.put,List.setIfInBounds_toArray,List.set_cons_zero,List.set_cons_succ]
       refine wpAnyH_ready (rs:= [6]) (by kernel_rfl) (by simp) ?_
       refine(AllReadyH.cons (o:=⟨none,_,_,_,_,_⟩) rfl (fun KK hK=> ?_) AllReadyH.nil)
       ·(try rw[if_pos (by rfl)])
        refine op_store39v rfl rfl rfl hv (by rfl) HOR.out ?_
        intro x5 hn9 hg9 hz9
        have hs:=hs.grown hg9 hs.size (fun k hk=>by cases hk;exact hvl)
        have hR:=World.ownsRow.kept hR hg9 (by
         cases hv9:Lr.ownBlock with
         |none=>exact .inl rfl
         |some k=>exact .inr (by intro e;injection e with e;exact hne k hv9 e))
        have hS:=HV4.out.below hs HV4.out.lt
        refine hK.out _ _ hS ?_
        clear hK KK hHeld
        intro hHeld
        try simp only[Act.put]
        refine wpAnyH_done (by kernel_rfl) ?_ _
        try simp only[Act.put,List.setIfInBounds_toArray,List.set_cons_zero,List.set_cons_succ,List.getElem_toArray,List.getElem_cons_zero,List.getElem_cons_succ]
        go_wp2_with fail
        go_meet
        exact⟨b2,Lr,rfl,hn9,hR,hs,hvl⟩
     ·(try rw[if_pos (by rfl)])
      refine op_alloc39v rfl ?_
      obtain⟨x3,hx3⟩:∃X,X=World.alloc x2 (.cells vz 39):=⟨_,rfl⟩
      obtain⟨b2,hb2⟩:∃g,g=(x2).heap.size:=⟨_,rfl⟩
      have hvl:wd.heap.size≤b2:=by rw[hb2];exact hs.size
      have hv:World.vb x3 b2 vz:=by rw[hx3,hb2];exact World.vb_new _ _
      (try have hA:World.vb x3 gA ([vcs (arrV 2 1 [numV (125,-2),numV (25,-1)]) (.slice (some ⟨g4,0,none⟩) 2 2) nilS nilS,pcs (numV (1,0))].flatMap (·.toList)).toArray:=(by rw[hx3];exact hA.alloc _))
      (try have hne:∀k,Lr.ownBlock=some k→k≠b2:=fun k hk=>(by have h1:=(World.ownsRow.lt hR k hk).2;omega))
      (try have hR:World.vr x3 wd.heap.size Lr LLR:=(by rw[hx3];exact hR.alloc _))
      have hs:Below wd.heap.size wd x3:=by rw[hx3];exact hs.alloc hs.size _
      rw[←hx3,←hb2]
      clear hx3 hb2
      have hS:=HV4.out.below hs HV4.out.lt
      refine hK.out _ _ hS ?_
      clear hK KK hHeld
      intro hHeld
      try simp only[Act.put,List.setIfInBounds_toArray,List.set_cons_zero,List.set_cons_succ]
      refine wpAnyH_ready (rs:= [4]) (by kernel_rfl) (by simp) ?_
      refine(AllReadyH.cons (o:=⟨some 44,_,_,_,_,_⟩) rfl (fun KK hK=> ?_) AllReadyH.nil)
      ·(try rw[if_pos (by rfl)])
       go_simp
       have hargs:=ex_args2 (World.vr.below HR4.out hs) hA
       refine(ex_round _ _ hargs (HENd.out _ hs)).mono ?_
       rintro e x4 ⟨Lr,rfl,hR,hb⟩
       (try have hne:∀k,Lr.ownBlock=some k→k≠b2:=fun k hk=>(by have h1:=(World.ownsRow.lt hR k hk).1;have h2:=hv.lt;omega))
       have hR:World.vr _ wd.heap.size Lr LLR:=(by rw[←HLR.out]at hR;exact hR.mono hs.size)
       have HOR:Hid (OneC (vcs (arrV 2 1 LLR) Lr nilS nilS)):=Lib.hid (vr_one (r:=2) (c:=1) (l:=LLR) hR)
       rw[←HLR.out]
       (try have hv:=hv.below hb hv.lt)
       have hs:=hs.trans (hb.mono hs.size)
       clear hb hA
       have hS:=HV4.out.below hs HV4.out.lt
       refine hK.out _ _ hS ?_
       clear hK KK hHeld
       intro hHeld
       try simp only[Act.put,List.setIfInBounds_toArray,List.set_cons_zero,List.set_cons_succ,List.getElem_toArray,List.getElem_cons_zero,List.getElem_cons_succ]
       refine wpAnyH_ready (rs:= [6]) (by kernel_rfl) (by simp) ?_
       refine(AllReadyH.cons (o:=⟨none,_,_,_,_,_⟩) rfl (fun KK hK=> ?_) AllReadyH.nil)
       ·(try rw[if_pos (by rfl)])
        refine op_store39v rfl rfl rfl hv (by rfl) HOR.out ?_
        intro x5 hn9 hg9 hz9
        have hs:=hs.grown hg9 hs.size (fun k hk=>by cases hk;exact hvl)
        have hR:=World.ownsRow.kept hR hg9 (by
         cases hv9:Lr.ownBlock with
         |none=>exact .inl rfl
         |some k=>exact .inr (by intro e;injection e with e;exact hne k hv9 e))
        have hS:=HV4.out.below hs HV4.out.lt
        refine hK.out _ _ hS ?_
        clear hK KK hHeld
        intro hHeld
        try simp only[Act.put]
        refine wpAnyH_done (by kernel_rfl) ?_ _
        try simp only[Act.put,List.setIfInBounds_toArray,List.set_cons_zero,List.set_cons_succ,List.getElem_toArray,List.getElem_cons_zero,List.getElem_cons_succ]
        go_wp2_with fail
        go_meet
        exact⟨b2,Lr,rfl,hn9,hR,hs,hvl⟩
    ·(try rw[if_pos (by rfl)])
     refine op_alloc39v rfl ?_
     obtain⟨x2,hx2⟩:∃X,X=World.alloc x1 (.cells vz 39):=⟨_,rfl⟩
     obtain⟨b2,hb2⟩:∃g,g=(x1).heap.size:=⟨_,rfl⟩
     have hvl:wd.heap.size≤b2:=by rw[hb2];exact hs.size
     have hv:World.vb x2 b2 vz:=by rw[hx2,hb2];exact World.vb_new _ _
     (try have hA:World.vb x2 gA ([vcs (arrV 2 1 [numV (125,-2),numV (25,-1)]) (.slice (some ⟨g4,0,none⟩) 2 2) nilS nilS,pcs (numV (1,0))].flatMap (·.toList)).toArray:=(by rw[hx2];exact hA.alloc _))
     (try have hne:∀k,Lr.ownBlock=some k→k≠b2:=fun k hk=>(by have h1:=(World.ownsRow.lt hR k hk).2;omega))
     (try have hR:World.vr x2 wd.heap.size Lr LLR:=(by rw[hx2];exact hR.alloc _))
     have hs:Below wd.heap.size wd x2:=by rw[hx2];exact hs.alloc hs.size _
     rw[←hx2,←hb2]
     clear hx2 hb2
     have hS:=HV4.out.below hs HV4.out.lt
     refine hK.out _ _ hS ?_
     clear hK KK hHeld
     intro hHeld
     try simp only[Act.put,List.setIfInBounds_toArray,List.set_cons_zero,List.set_cons_succ]
     refine wpAnyH_ready (rs:= [2]) (by kernel_rfl) (by simp) ?_
     refine(AllReadyH.cons (o:=⟨some 42,_,_,_,_,_⟩) rfl (fun KK hK=> ?_) AllReadyH.nil)
     ·(try rw[if_pos (by rfl)])
      refine op_bslA2 rfl rfl rfl ?_
      obtain⟨x3,hx3⟩:∃X,X=World.alloc x2 (.cells ([vcs (arrV 2 1 [numV (125,-2),numV (25,-1)]) (.slice (some ⟨g4,0,none⟩) 2 2) nilS nilS,pcs (numV (1,0))].flatMap (·.toList)).toArray 39):=⟨_,rfl⟩
      obtain⟨gA,hgA⟩:∃g,g=(x2).heap.size:=⟨_,rfl⟩
      have hA:World.vb x3 gA ([vcs (arrV 2 1 [numV (125,-2),numV (25,-1)]) (.slice (some ⟨g4,0,none⟩) 2 2) nilS nilS,pcs (numV (1,0))].flatMap (·.toList)).toArray:=by rw[hx3,hgA];exact World.vb_new _ _
      have hs:Below wd.heap.size wd x3:=by rw[hx3];exact hs.alloc hs.size _
      (try have hv:World.vb x3 b2 vz:=(by rw[hx3];exact hv.alloc _))
      rw[←hx3,←hgA]
      clear hx3 hgA
      have hS:=HV4.out.below hs HV4.out.lt
      refine hK.out _ _ hS ?_
      clear hK KK hHeld
      intro hHeld
      try simp only[Act.put,List.setIfInBounds_toArray,List.set_cons_zero,List.set_cons_succ]
      refine wpAnyH_ready (rs:= [4]) (by kernel_rfl) (by simp) ?_
      refine(AllReadyH.cons (o:=⟨some 44,_,_,_,_,_⟩) rfl (fun KK hK=> ?_) AllReadyH.nil)
      ·(try rw[if_pos (by rfl)])
       go_simp
       have hargs:=ex_args2 (World.vr.below HR4.out hs) hA
       refine(ex_round _ _ hargs (HENd.out _ hs)).mono ?_
       rintro e x4 ⟨Lr,rfl,hR,hb⟩
       (try have hne:∀k,Lr.ownBlock=some k→k≠b2:=fun k hk=>(by have h1:=(World.ownsRow.lt hR k hk).1;have h2:=hv.lt;omega))
       have hR:World.vr _ wd.heap.size Lr LLR:=(by rw[←HLR.out]at hR;exact hR.mono hs.size)
       have HOR:Hid (OneC (vcs (arrV 2 1 LLR) Lr nilS nilS)):=Lib.hid (vr_one (r:=2) (c:=1) (l:=LLR) hR)
       rw[←HLR.out]
       (try have hv:=hv.below hb hv.lt)
       have hs:=hs.trans (hb.mono hs.size)
       clear hb hA
       have hS:=HV4.out.below hs HV4.out.lt
       refine hK.out _ _ hS ?_
       clear hK KK hHeld
       intro hHeld
       try simp only[Act.put,List.setIfInBounds_toArray,List.set_cons_zero,List.set_cons_succ,List.getElem_toArray,List.getElem_cons_zero,List.getElem_cons_succ]
       refine wpAnyH_ready (rs:= [6]) (by kernel_rfl) (by simp) ?_
       refine(AllReadyH.cons (o:=⟨none,_,_,_,_,_⟩) rfl (fun KK hK=> ?_) AllReadyH.nil)
       ·(try rw[if_pos (by rfl)])
        refine op_store39v rfl rfl rfl hv (by rfl) HOR.out ?_
        intro x5 hn9 hg9 hz9
        have hs:=hs.grown hg9 hs.size (fun k hk=>by cases hk;exact hvl)
        have hR:=World.ownsRow.kept hR hg9 (by
         cases hv9:Lr.ownBlock with
         |none=>exact .inl rfl
         |some k=>exact .inr (by intro e;injection e with e;exact hne k hv9 e))
        have hS:=HV4.out.below hs HV4.out.lt
        refine hK.out _ _ hS ?_
        clear hK KK hHeld
        intro hHeld
        try simp only[Act.put]
        refine wpAnyH_done (by kernel_rfl) ?_ _
        try simp only[Act.put,List.setIfInBounds_toArray,List.set_cons_zero,List.set_cons_succ,List.getElem_toArray,List.getElem_cons_zero,List.getElem_cons_succ]
        go_wp2_with fail
        go_meet
        exact⟨b2,Lr,rfl,hn9,hR,hs,hvl⟩
   ·(try rw[if_pos (by rfl)])
    refine op_alloc39v rfl ?_
    obtain⟨x1,hx1⟩:∃X,X=World.alloc wd.drew (.cells vz 39):=⟨_,rfl⟩
    obtain⟨b2,hb2⟩:∃g,g=(wd.drew).heap.size:=⟨_,rfl⟩
    have hvl:wd.heap.size≤b2:=by rw[hb2];exact hs.size
    have hv:World.vb x1 b2 vz:=by rw[hx1,hb2];exact World.vb_new _ _
    (try have hA:World.vb x1 gA ([vcs (arrV 2 1 [numV (125,-2),numV (25,-1)]) (.slice (some ⟨g4,0,none⟩) 2 2) nilS nilS,pcs (numV (1,0))].flatMap (·.toList)).toArray:=(by rw[hx1];exact hA.alloc _))
    (try have hne:∀k,Lr.ownBlock=some k→k≠b2:=fun k hk=>(by have h1:=(World.ownsRow.lt hR k hk).2;omega))
    (try have hR:World.vr x1 wd.heap.size Lr LLR:=(by rw[hx1];exact hR.alloc _))
    have hs:Below wd.heap.size wd x1:=by rw[hx1];exact hs.alloc hs.size _
    rw[←hx1,←hb2]
    clear hx1 hb2
    have hS:=HV4.out.below hs HV4.out.lt
    refine hK.out _ _ hS ?_
    clear hK KK hHeld
    intro hHeld
    try simp only[Act.put,List.setIfInBounds_toArray,List.set_cons_zero,List.set_cons_succ]
    refine wpAnyH_ready (rs:= [1]) (by kernel_rfl) (by simp) ?_
    refine(AllReadyH.cons (o:=⟨some 41,_,_,_,_,_⟩) rfl (fun KK hK=> ?_) AllReadyH.nil)
    ·(try rw[if_pos (by rfl)])
     go_simp
     refine(H1.out _).mono ?_
     rintro e x2 ⟨rfl,hb⟩
     (try have hv:=hv.below hb hv.lt)
     (try have hA:=hA.below hb hA.lt)
     have hs:=hs.trans (hb.mono hs.size)
     clear hb
     have hS:=HV4.out.below hs HV4.out.lt
     refine hK.out _ _ hS ?_
     clear hK KK hHeld
     intro hHeld
     try simp only[Act.put,List.setIfInBounds_toArray,List.set_cons_zero,List.set_cons_succ,List.getElem_toArray,List.getElem_cons_zero,List.getElem_cons_succ]
     refine wpAnyH_ready (rs:= [2]) (by kernel_rfl) (by simp) ?_
     refine(AllReadyH.cons (o:=⟨some 42,_,_,_,_,_⟩) rfl (fun KK hK=> ?_) AllReadyH.nil)
     ·(try rw[if_pos (by rfl)])
      refine op_bslA2 rfl rfl rfl ?_
      obtain⟨x3,hx3⟩:∃X,X=World.alloc x2 (.cells ([vcs (arrV 2 1 [numV (125,-2),numV (25,-1)]) (.slice (some ⟨g4,0,none⟩) 2 2) nilS nilS,pcs (numV (1,0))].flatMap (·.toList)).toArray 39):=⟨_,rfl⟩
      obtain⟨gA,hgA⟩:∃g,g=(x2).heap.size:=⟨_,rfl⟩
      have hA:World.vb x3 gA ([vcs (arrV 2 1 [numV (125,-2),numV (25,-1)]) (.slice (some ⟨g4,0,none⟩) 2 2) nilS nilS,pcs (numV (1,0))].flatMap (·.toList)).toArray:=by rw[hx3,hgA];exact World.vb_new _ _
      have hs:Below wd.heap.size wd x3:=by rw[hx3];exact hs.alloc hs.size _
      (try have hv:World.vb x3 b2 vz:=(by rw[hx3];exact hv.alloc _))
      rw[←hx3,←hgA]
      clear hx3 hgA
      have hS:=HV4.out.below hs HV4.out.lt
      refine hK.out _ _ hS ?_
      clear hK KK hHeld
      intro hHeld
      try simp only[Act.put,List.setIfInBounds_toArray,List.set_cons_zero,List.set_cons_succ]
      refine wpAnyH_ready (rs:= [4]) (by kernel_rfl) (by simp) ?_
      refine(AllReadyH.cons (o:=⟨some 44,_,_,_,_,_⟩) rfl (fun KK hK=> ?_) AllReadyH.nil)
      ·(try rw[if_pos (by rfl)])
       go_simp
       have hargs:=ex_args2 (World.vr.below HR4.out hs) hA
       refine(ex_round _ _ hargs (HENd.out _ hs)).mono ?_
       rintro e x4 ⟨Lr,rfl,hR,hb⟩
       (try have hne:∀k,Lr.ownBlock=some k→k≠b2:=fun k hk=>(by have h1:=(World.ownsRow.lt hR k hk).1;have h2:=hv.lt;omega))
       have hR:World.vr _ wd.heap.size Lr LLR:=(by rw[←HLR.out]at hR;exact hR.mono hs.size)
       have HOR:Hid (OneC (vcs (arrV 2 1 LLR) Lr nilS nilS)):=Lib.hid (vr_one (r:=2) (c:=1) (l:=LLR) hR)
       rw[←HLR.out]
       (try have hv:=hv.below hb hv.lt)
       have hs:=hs.trans (hb.mono hs.size)
       clear hb hA
       have hS:=HV4.out.below hs HV4.out.lt
       refine hK.out _ _ hS ?_
       clear hK KK hHeld
       intro hHeld
       try simp only[Act.put,List.setIfInBounds_toArray,List.set_cons_zero,List.set_cons_succ,List.getElem_toArray,List.getElem_cons_zero,List.getElem_cons_succ]
       refine wpAnyH_ready (rs:= [6]) (by kernel_rfl) (by simp) ?_
       refine(AllReadyH.cons (o:=⟨none,_,_,_,_,_⟩) rfl (fun KK hK=> ?_) AllReadyH.nil)
       ·(try rw[if_pos (by rfl)])
        refine op_store39v rfl rfl rfl hv (by rfl) HOR.out ?_
        intro x5 hn9 hg9 hz9
        have hs:=hs.grown hg9 hs.size (fun k hk=>by cases hk;exact hvl)
        have hR:=World.ownsRow.kept hR hg9 (by
         cases hv9:Lr.ownBlock with
         |none=>exact .inl rfl
         |some k=>exact .inr (by intro e;injection e with e;exact hne k hv9 e))
        have hS:=HV4.out.below hs HV4.out.lt
        refine hK.out _ _ hS ?_
        clear hK KK hHeld
        intro hHeld
        try simp only[Act.put]
        refine wpAnyH_done (by kernel_rfl) ?_ _
        try simp only[Act.put,List.setIfInBounds_toArray,List.set_cons_zero,List.set_cons_succ,List.getElem_toArray,List.getElem_cons_zero,List.getElem_cons_succ]
        go_wp2_with fail
        go_meet
        exact⟨b2,Lr,rfl,hn9,hR,hs,hvl⟩
  case rest=>
   obtain⟨b5,Lr,rfl,hv5,hr5,hst,hb5l⟩:=hcut
   obtain⟨we,hwe⟩:∃W,W=wc:=⟨_,rfl⟩
   subst hwe
   have HV5:=Lib.hid hv5
   obtain⟨gr,cr,rfl⟩:=vr_pos hr5 (by rw[HLR.out];simp)
   have HR5:=Lib.hid hr5
   have HV2:=Lib.hid (HV2.out.below hst HV2.out.lt)
   have HV3:=Lib.hid (HV3.out.below hst HV3.out.lt)
   have HBa:=Lib.hid (HBa.out.trans (hst.mono HBa.out.size))
   clear hv5 hr5 hst hb5l HV4 HR4 HENd
   have HK1:=Lib.hid (show ∀W,Calls Tryz.prog 15 #[.string ⟨#[115,101,81,85,69,78,67,69]⟩] W (Gives (.tuple #[.int .i64 1,.int .i64 4,.bool true]) W)from ex_known (mk [115,101,81,85,69,78,67,69]) (by decide) _ (by kernel_rfl))
   have HK2:=Lib.hid (show ∀W,Calls Tryz.prog 15 #[.string ⟨#[76,65,77,66,68,65]⟩] W (Gives (.tuple #[.int .i64 0,.int .i64 0,.bool false]) W)from ex_known (mk [76,65,77,66,68,65]) (by decide) _ (by kernel_rfl))
   go_upto_region 7 with (go_at_call 15;refine(HK1.out _).mono ?_;rintro e w8 ⟨rfl,hst⟩)
   have HV2:=Lib.hid (HV2.out.below hst HV2.out.lt)
   have HV3:=Lib.hid (HV3.out.below hst HV3.out.lt)
   have HV5:=Lib.hid (HV5.out.below hst HV5.out.lt)
   have HR5:=Lib.hid (World.vr.below HR5.out hst)
   have HBa:=Lib.hid (HBa.out.trans (hst.mono HBa.out.size))
   clear hst
   go_upto_region 8 with (go_at_call 15;refine(HK2.out _).mono ?_;rintro e w9 ⟨rfl,hst⟩)
   have HV2:=Lib.hid (HV2.out.below hst HV2.out.lt)
   have HV3:=Lib.hid (HV3.out.below hst HV3.out.lt)
   have HV5:=Lib.hid (HV5.out.below hst HV5.out.lt)
   have HR5:=Lib.hid (World.vr.below HR5.out hst)
   have HBa:=Lib.hid (HBa.out.trans (hst.mono HBa.out.size))
   clear hst
   have hs:Below w9.heap.size w9 w9:=Below.refl _ _
   go_upto_region 9 with (first|(go_at_call 18;refine(ex_now _ (HEN.out _ (HBa.out.trans (hs.mono HBa.out.size)))).mono ?_;rintro e y1a ⟨rfl,hb⟩;have hs:=hs.trans (hb.mono hs.size))|refine wpList_alloc34 rfl rfl ?_|(refine wpList_store34 rfl rfl rfl rfl (World.vb_new' _ vz _ rfl) (by rfl) (pcs_one _) ?_;intro y1 hny1 hgy1 hzy1))
   go_simp
   have hst:Below w9.heap.size w9 y1:=(hs.alloc hs.size (.cells vz 39)).grown hgy1 (by have:=hs.size;simp;omega) (fun k hk=>by cases hk;exact hs.size)
   have H12:=Lib.hid hny1
   obtain⟨b12,hb12⟩:∃b,b=y1a.heap.size:=⟨_,rfl⟩
   rw[←hb12]at H12⊢
   have HV2:=Lib.hid (HV2.out.below hst HV2.out.lt)
   have HV3:=Lib.hid (HV3.out.below hst HV3.out.lt)
   have HV5:=Lib.hid (HV5.out.below hst HV5.out.lt)
   have HR5:=Lib.hid (World.vr.below HR5.out hst)
   have HBa:=Lib.hid (HBa.out.trans (hst.mono HBa.out.size))
   clear hny1 hgy1 hzy1 hs hst hb12 hb
   have hs:Below y1.heap.size y1 y1:=Below.refl _ _
   go_upto_region 10 with (first|(go_at_call 18;refine(ex_foo _).mono ?_;rintro e y2a ⟨rfl,hb⟩;have hs:=hs.trans (hb.mono hs.size))|refine wpList_alloc34 rfl rfl ?_|(refine wpList_store34 rfl rfl rfl rfl (World.vb_new' _ vz _ rfl) (by rfl) (pcs_one _) ?_;intro y2 hny2 hgy2 hzy2))
   go_simp
   have hst:Below y1.heap.size y1 y2:=(hs.alloc hs.size (.cells vz 39)).grown hgy2 (by have:=hs.size;simp;omega) (fun k hk=>by cases hk;exact hs.size)
   have H13:=Lib.hid hny2
   obtain⟨b13,hb13⟩:∃b,b=y2a.heap.size:=⟨_,rfl⟩
   rw[←hb13]at H13⊢
   have HV2:=Lib.hid (HV2.out.below hst HV2.out.lt)
   have HV3:=Lib.hid (HV3.out.below hst HV3.out.lt)
   have HV5:=Lib.hid (HV5.out.below hst HV5.out.lt)
   have H12:=Lib.hid (H12.out.below hst H12.out.lt)
   have HR5:=Lib.hid (World.vr.below HR5.out hst)
   have HBa:=Lib.hid (HBa.out.trans (hst.mono HBa.out.size))
   clear hny2 hgy2 hzy2 hs hst hb13 hb
   have hs:Below y2.heap.size y2 y2:=Below.refl _ _
   go_upto_region 11 with (first|(go_at_call 18;refine(ex_few _).mono ?_;rintro e y3a ⟨rfl,hb⟩;have hs:=hs.trans (hb.mono hs.size))|refine wpList_alloc34 rfl rfl ?_|(refine wpList_store34 rfl rfl rfl rfl (World.vb_new' _ vz _ rfl) (by rfl) (pcs_one _) ?_;intro y3 hny3 hgy3 hzy3))
   go_simp
   have hst:Below y2.heap.size y2 y3:=(hs.alloc hs.size (.cells vz 39)).grown hgy3 (by have:=hs.size;simp;omega) (fun k hk=>by cases hk;exact hs.size)
   have H14:=Lib.hid hny3
   obtain⟨b14,hb14⟩:∃b,b=y3a.heap.size:=⟨_,rfl⟩
   rw[←hb14]at H14⊢
   have HV2:=Lib.hid (HV2.out.below hst HV2.out.lt)
   have HV3:=Lib.hid (HV3.out.below hst HV3.out.lt)
   have HV5:=Lib.hid (HV5.out.below hst HV5.out.lt)
   have H12:=Lib.hid (H12.out.below hst H12.out.lt)
   have H13:=Lib.hid (H13.out.below hst H13.out.lt)
   have HR5:=Lib.hid (World.vr.below HR5.out hst)
   have HBa:=Lib.hid (HBa.out.trans (hst.mono HBa.out.size))
   clear hny3 hgy3 hzy3 hs hst hb14 hb
   obtain rfl:LLR= [numV (13,-1),numV (25,-1)]:=HLR.out
   have HF:=Lib.hid (show ∀W,Below y3.heap.size y3 W→W.cell? ⟨b5,0,none⟩=some (.int .i64 5)∧W.cell? ⟨b5,8,none⟩=some (.slice (some ⟨gr,0,none⟩) 2 cr)∧W.cell? ⟨gr,1,none⟩=some (.int .i64 13)∧W.cell? ⟨gr,2,none⟩=some (.int .i64 (-1))∧W.cell? ⟨gr,13,none⟩=some (.int .i64 25)∧W.cell? ⟨gr,14,none⟩=some (.int .i64 (-1))∧W.cell? ⟨b13,0,none⟩=some (.int .i64 4)∧W.cell? ⟨b13,5,none⟩=some (.int .i64 5)∧W.cell? ⟨b14,5,none⟩=some (.int .i64 3)from fun W hW=>by
    have h5:=HV5.out.below hW HV5.out.lt
    have hr:=World.vr.below HR5.out hW
    have h13:=H13.out.below hW H13.out.lt
    have h14:=H14.out.below hW H14.out.lt
    exact⟨h5.cell rfl,h5.cell rfl,vr_cells hr (k:=0) rfl 1 _ rfl,vr_cells hr (k:=0) rfl 2 _ rfl,vr_cells hr (k:=1) rfl 1 _ rfl,vr_cells hr (k:=1) rfl 2 _ rfl,h13.cell rfl,h13.cell rfl,h14.cell rfl⟩)
   have HNM:=Lib.hid (fun W=>ex_names W)
   have HS7:=Lib.hid (ex_same (numV (7,0)) (ex_num_plain 7 (by decide)))
   have HSE:=Lib.hid (ex_same (txtV (mk [195,169,108,108])) (plain_txt (by kernel_rfl)))
   have hcr:(2:Int)≤(cr:Int):=by have:=(vr_els HR5.out).2.2.1;simp at this;omega
   clear HV5 HR5 H13 H14
   have HS3:=Lib.hid (show ∀W,Below y3.heap.size y3 W→World.vb W b2 (pcs (numV (7,0)))∧World.vb W b3 (pcs (txtV (mk [195,169,108,108])))∧World.vb W b12 (pcs (numV (7,0)))from fun W hW=>⟨HV2.out.below hW HV2.out.lt,HV3.out.below hW HV3.out.lt,H12.out.below hW H12.out.lt⟩)
   go_upto_region 12 with (go_at_call 12;refine(HNM.out _).mono ?_;rintro e z ⟨gn,cn,rfl,hs,HN⟩;have hz:=Below.refl z.heap.size z;have HN:=Lib.hid HN)
   have hS0:World.vb z b2 (pcs (numV (7,0)))∧World.vb z b3 (pcs (txtV (mk [195,169,108,108])))∧World.vb z b12 (pcs (numV (7,0)))∧z.cell? ⟨b5,0,none⟩=some (.int .i64 5)∧z.cell? ⟨b5,8,none⟩=some (.slice (some ⟨gr,0,none⟩) 2 cr)∧z.cell? ⟨gr,1,none⟩=some (.int .i64 13)∧z.cell? ⟨gr,2,none⟩=some (.int .i64 (-1))∧z.cell? ⟨gr,13,none⟩=some (.int .i64 25)∧z.cell? ⟨gr,14,none⟩=some (.int .i64 (-1))∧z.cell? ⟨b13,0,none⟩=some (.int .i64 4)∧z.cell? ⟨b13,5,none⟩=some (.int .i64 5)∧z.cell? ⟨b14,5,none⟩=some (.int .i64 3)∧z.cell? ⟨gn,0,none⟩=some (.string ⟨#[65,66,83]⟩):=⟨(HS3.out _ hs).1,(HS3.out _ hs).2.1,(HS3.out _ hs).2.2,(HF.out _ hs).1,(HF.out _ hs).2.1,(HF.out _ hs).2.2.1,(HF.out _ hs).2.2.2.1,(HF.out _ hs).2.2.2.2.1,(HF.out _ hs).2.2.2.2.2.1,(HF.out _ hs).2.2.2.2.2.2.1,(HF.out _ hs).2.2.2.2.2.2.2.1,(HF.out _ hs).2.2.2.2.2.2.2.2,HN.out _ hz⟩
   have hcn:(0:Int)<69:=by omega
   clear HV2 HV3 H12
   simp only[List.append_eq,List.cons_append,List.nil_append]
   refine wp_region_held_drew (S:=fun w9=>World.vb w9 b2 (pcs (numV (7,0)))∧World.vb w9 b3 (pcs (txtV (mk [195,169,108,108])))∧World.vb w9 b12 (pcs (numV (7,0)))∧w9.cell? ⟨b5,0,none⟩=some (.int .i64 5)∧w9.cell? ⟨b5,8,none⟩=some (.slice (some ⟨gr,0,none⟩) 2 cr)∧w9.cell? ⟨gr,1,none⟩=some (.int .i64 13)∧w9.cell? ⟨gr,2,none⟩=some (.int .i64 (-1))∧w9.cell? ⟨gr,13,none⟩=some (.int .i64 25)∧w9.cell? ⟨gr,14,none⟩=some (.int .i64 (-1))∧w9.cell? ⟨b13,0,none⟩=some (.int .i64 4)∧w9.cell? ⟨b13,5,none⟩=some (.int .i64 5)∧w9.cell? ⟨b14,5,none⟩=some (.int .i64 3)∧w9.cell? ⟨gn,0,none⟩=some (.string ⟨#[65,66,83]⟩)) (by kernel_rfl) hS0 (fun hHeld=> ?_)
   refine tk 0 ⟨some 62,_,_,_,_,_⟩ ?_ hHeld ?_ ?_
   rotate_left
   ·(intro w9 hSw;refine yields34 (x:= .tmp 2) (g:=b2) (cs:=pcs (numV (7,0))) ?_ ?_ rfl hSw.1<;>rfl)
   try simp only[Act.put,List.setIfInBounds_toArray,List.set_cons_zero,List.set_cons_succ]
   have hs:=hs.drew
   have hz:=hz.drew
   refine wpAnyH_ready (rs:= [1]) (by kernel_rfl) (by simp) ?_
   refine(AllReadyH.cons (o:=⟨some 63,_,_,_,_,_⟩) rfl (fun KK hK=> ?_) AllReadyH.nil)
   ·(try rw[if_pos (by rfl)])
    go_simp
    refine(H7.out _).mono ?_
    rintro e x1 ⟨rfl,hb⟩
    have hs:=hs.trans (hb.mono hs.size)
    have hz:=hz.trans (hb.mono hz.size)
    clear hb
    have hS9:World.vb x1 b2 (pcs (numV (7,0)))∧World.vb x1 b3 (pcs (txtV (mk [195,169,108,108])))∧World.vb x1 b12 (pcs (numV (7,0)))∧x1.cell? ⟨b5,0,none⟩=some (.int .i64 5)∧x1.cell? ⟨b5,8,none⟩=some (.slice (some ⟨gr,0,none⟩) 2 cr)∧x1.cell? ⟨gr,1,none⟩=some (.int .i64 13)∧x1.cell? ⟨gr,2,none⟩=some (.int .i64 (-1))∧x1.cell? ⟨gr,13,none⟩=some (.int .i64 25)∧x1.cell? ⟨gr,14,none⟩=some (.int .i64 (-1))∧x1.cell? ⟨b13,0,none⟩=some (.int .i64 4)∧x1.cell? ⟨b13,5,none⟩=some (.int .i64 5)∧x1.cell? ⟨b14,5,none⟩=some (.int .i64 3)∧x1.cell? ⟨gn,0,none⟩=some (.string ⟨#[65,66,83]⟩):=⟨(HS3.out _ hs).1,(HS3.out _ hs).2.1,(HS3.out _ hs).2.2,(HF.out _ hs).1,(HF.out _ hs).2.1,(HF.out _ hs).2.2.1,(HF.out _ hs).2.2.2.1,(HF.out _ hs).2.2.2.2.1,(HF.out _ hs).2.2.2.2.2.1,(HF.out _ hs).2.2.2.2.2.2.1,(HF.out _ hs).2.2.2.2.2.2.2.1,(HF.out _ hs).2.2.2.2.2.2.2.2,HN.out _ hz⟩
    refine hK.out _ _ hS9 ?_
    clear hK KK hHeld
    intro hHeld
    try simp only[Act.put,List.setIfInBounds_toArray,List.set_cons_zero,List.set_cons_succ,List.getElem_toArray,List.getElem_cons_zero,List.getElem_cons_succ]
    refine wpAnyH_ready (rs:= [2]) (by kernel_rfl) (by simp) ?_
    refine(AllReadyH.cons (o:=⟨some 64,_,_,_,_,_⟩) rfl (fun KK hK=> ?_) AllReadyH.nil)
    ·(try rw[if_pos (by rfl)])
     go_simp
     refine(HS7.out _).mono ?_
     rintro e x2 ⟨rfl,hb⟩
     have hs:=hs.trans (hb.mono hs.size)
     have hz:=hz.trans (hb.mono hz.size)
     clear hb
     have hS9:World.vb x2 b2 (pcs (numV (7,0)))∧World.vb x2 b3 (pcs (txtV (mk [195,169,108,108])))∧World.vb x2 b12 (pcs (numV (7,0)))∧x2.cell? ⟨b5,0,none⟩=some (.int .i64 5)∧x2.cell? ⟨b5,8,none⟩=some (.slice (some ⟨gr,0,none⟩) 2 cr)∧x2.cell? ⟨gr,1,none⟩=some (.int .i64 13)∧x2.cell? ⟨gr,2,none⟩=some (.int .i64 (-1))∧x2.cell? ⟨gr,13,none⟩=some (.int .i64 25)∧x2.cell? ⟨gr,14,none⟩=some (.int .i64 (-1))∧x2.cell? ⟨b13,0,none⟩=some (.int .i64 4)∧x2.cell? ⟨b13,5,none⟩=some (.int .i64 5)∧x2.cell? ⟨b14,5,none⟩=some (.int .i64 3)∧x2.cell? ⟨gn,0,none⟩=some (.string ⟨#[65,66,83]⟩):=⟨(HS3.out _ hs).1,(HS3.out _ hs).2.1,(HS3.out _ hs).2.2,(HF.out _ hs).1,(HF.out _ hs).2.1,(HF.out _ hs).2.2.1,(HF.out _ hs).2.2.2.1,(HF.out _ hs).2.2.2.2.1,(HF.out _ hs).2.2.2.2.2.1,(HF.out _ hs).2.2.2.2.2.2.1,(HF.out _ hs).2.2.2.2.2.2.2.1,(HF.out _ hs).2.2.2.2.2.2.2.2,HN.out _ hz⟩
     refine hK.out _ _ hS9 ?_
     clear hK KK hHeld
     intro hHeld
     try simp only[Act.put,List.setIfInBounds_toArray,List.set_cons_zero,List.set_cons_succ,List.getElem_toArray,List.getElem_cons_zero,List.getElem_cons_succ]
     refine tk 3 ⟨some 65,_,_,_,_,_⟩ ?_ hHeld ?_ ?_
     rotate_left
     ·(intro w9 hSw;obtain⟨_,_,_,k50,k58,m1,m2,m3,m4,k130,k135,k145,kn⟩:=hSw;go_simp)
      all_goals with_reducible rfl
     try simp only[Act.put,List.setIfInBounds_toArray,List.set_cons_zero,List.set_cons_succ]
     refine tk 4 ⟨some 66,_,_,_,_,_⟩ ?_ hHeld ?_ ?_
     rotate_left
     ·(intro w9 hSw;refine yields34 (x:= .tmp 3) (g:=b3) (cs:=pcs (txtV (mk [195,169,108,108]))) ?_ ?_ rfl hSw.2.1<;>rfl)
     try simp only[Act.put,List.setIfInBounds_toArray,List.set_cons_zero,List.set_cons_succ]
     refine wpAnyH_ready (rs:= [5]) (by kernel_rfl) (by simp) ?_
     refine(AllReadyH.cons (o:=⟨some 67,_,_,_,_,_⟩) rfl (fun KK hK=> ?_) AllReadyH.nil)
     ·(try rw[if_pos (by rfl)])
      go_simp
      refine(HEL.out _).mono ?_
      rintro e x3 ⟨rfl,hb⟩
      have hs:=hs.trans (hb.mono hs.size)
      have hz:=hz.trans (hb.mono hz.size)
      clear hb
      have hS9:World.vb x3 b2 (pcs (numV (7,0)))∧World.vb x3 b3 (pcs (txtV (mk [195,169,108,108])))∧World.vb x3 b12 (pcs (numV (7,0)))∧x3.cell? ⟨b5,0,none⟩=some (.int .i64 5)∧x3.cell? ⟨b5,8,none⟩=some (.slice (some ⟨gr,0,none⟩) 2 cr)∧x3.cell? ⟨gr,1,none⟩=some (.int .i64 13)∧x3.cell? ⟨gr,2,none⟩=some (.int .i64 (-1))∧x3.cell? ⟨gr,13,none⟩=some (.int .i64 25)∧x3.cell? ⟨gr,14,none⟩=some (.int .i64 (-1))∧x3.cell? ⟨b13,0,none⟩=some (.int .i64 4)∧x3.cell? ⟨b13,5,none⟩=some (.int .i64 5)∧x3.cell? ⟨b14,5,none⟩=some (.int .i64 3)∧x3.cell? ⟨gn,0,none⟩=some (.string ⟨#[65,66,83]⟩):=⟨(HS3.out _ hs).1,(HS3.out _ hs).2.1,(HS3.out _ hs).2.2,(HF.out _ hs).1,(HF.out _ hs).2.1,(HF.out _ hs).2.2.1,(HF.out _ hs).2.2.2.1,(HF.out _ hs).2.2.2.2.1,(HF.out _ hs).2.2.2.2.2.1,(HF.out _ hs).2.2.2.2.2.2.1,(HF.out _ hs).2.2.2.2.2.2.2.1,(HF.out _ hs).2.2.2.2.2.2.2.2,HN.out _ hz⟩
      refine hK.out _ _ hS9 ?_
      clear hK KK hHeld
      intro hHeld
      try simp only[Act.put,List.setIfInBounds_toArray,List.set_cons_zero,List.set_cons_succ,List.getElem_toArray,List.getElem_cons_zero,List.getElem_cons_succ]
      refine wpAnyH_ready (rs:= [6]) (by kernel_rfl) (by simp) ?_
      refine(AllReadyH.cons (o:=⟨some 68,_,_,_,_,_⟩) rfl (fun KK hK=> ?_) AllReadyH.nil)
      ·(try rw[if_pos (by rfl)])
       go_simp
       refine(HSE.out _).mono ?_
       rintro e x4 ⟨rfl,hb⟩
       have hs:=hs.trans (hb.mono hs.size)
       have hz:=hz.trans (hb.mono hz.size)
       clear hb
       have hS9:World.vb x4 b2 (pcs (numV (7,0)))∧World.vb x4 b3 (pcs (txtV (mk [195,169,108,108])))∧World.vb x4 b12 (pcs (numV (7,0)))∧x4.cell? ⟨b5,0,none⟩=some (.int .i64 5)∧x4.cell? ⟨b5,8,none⟩=some (.slice (some ⟨gr,0,none⟩) 2 cr)∧x4.cell? ⟨gr,1,none⟩=some (.int .i64 13)∧x4.cell? ⟨gr,2,none⟩=some (.int .i64 (-1))∧x4.cell? ⟨gr,13,none⟩=some (.int .i64 25)∧x4.cell? ⟨gr,14,none⟩=some (.int .i64 (-1))∧x4.cell? ⟨b13,0,none⟩=some (.int .i64 4)∧x4.cell? ⟨b13,5,none⟩=some (.int .i64 5)∧x4.cell? ⟨b14,5,none⟩=some (.int .i64 3)∧x4.cell? ⟨gn,0,none⟩=some (.string ⟨#[65,66,83]⟩):=⟨(HS3.out _ hs).1,(HS3.out _ hs).2.1,(HS3.out _ hs).2.2,(HF.out _ hs).1,(HF.out _ hs).2.1,(HF.out _ hs).2.2.1,(HF.out _ hs).2.2.2.1,(HF.out _ hs).2.2.2.2.1,(HF.out _ hs).2.2.2.2.2.1,(HF.out _ hs).2.2.2.2.2.2.1,(HF.out _ hs).2.2.2.2.2.2.2.1,(HF.out _ hs).2.2.2.2.2.2.2.2,HN.out _ hz⟩
       refine hK.out _ _ hS9 ?_
       clear hK KK hHeld
       intro hHeld
       try simp only[Act.put,List.setIfInBounds_toArray,List.set_cons_zero,List.set_cons_succ,List.getElem_toArray,List.getElem_cons_zero,List.getElem_cons_succ]
       refine tk 7 ⟨some 69,_,_,_,_,_⟩ ?_ hHeld ?_ ?_
       rotate_left
       ·(intro w9 hSw;obtain⟨_,_,_,k50,k58,m1,m2,m3,m4,k130,k135,k145,kn⟩:=hSw;go_simp)
        all_goals with_reducible rfl
       try simp only[Act.put,List.setIfInBounds_toArray,List.set_cons_zero,List.set_cons_succ]
       refine tk 8 ⟨some 70,_,_,_,_,_⟩ ?_ hHeld ?_ ?_
       rotate_left
       ·(intro w9 hSw;obtain⟨_,_,_,k50,k58,m1,m2,m3,m4,k130,k135,k145,kn⟩:=hSw;go_simp)
        all_goals with_reducible rfl
       try simp only[Act.put,List.setIfInBounds_toArray,List.set_cons_zero,List.set_cons_succ]
       refine tk 9 ⟨some 71,_,_,_,_,_⟩ ?_ hHeld ?_ ?_
       rotate_left
       ·(intro w9 hSw;obtain⟨_,_,_,k50,k58,m1,m2,m3,m4,k130,k135,k145,kn⟩:=hSw;go_simp)
        all_goals with_reducible rfl
       try simp only[Act.put,List.setIfInBounds_toArray,List.set_cons_zero,List.set_cons_succ]
       refine tk 10 ⟨some 72,_,_,_,_,_⟩ ?_ hHeld ?_ ?_
       rotate_left
       ·(intro w9 hSw;obtain⟨_,_,_,k50,k58,m1,m2,m3,m4,k130,k135,k145,kn⟩:=hSw;go_simp)
        all_goals with_reducible rfl
       try simp only[Act.put,List.setIfInBounds_toArray,List.set_cons_zero,List.set_cons_succ]
       refine tk 11 ⟨some 73,_,_,_,_,_⟩ ?_ hHeld ?_ ?_
       rotate_left
       ·(intro w9 hSw;obtain⟨_,_,_,k50,k58,m1,m2,m3,m4,k130,k135,k145,kn⟩:=hSw;go_simp)
        all_goals with_reducible rfl
       try simp only[Act.put,List.setIfInBounds_toArray,List.set_cons_zero,List.set_cons_succ]
       refine tk 12 ⟨some 74,_,_,_,_,_⟩ ?_ hHeld ?_ ?_
       rotate_left
       ·(intro w9 hSw;obtain⟨_,_,_,k50,k58,m1,m2,m3,m4,k130,k135,k145,kn⟩:=hSw;go_simp)
        all_goals with_reducible rfl
       try simp only[Act.put,List.setIfInBounds_toArray,List.set_cons_zero,List.set_cons_succ]
       refine tk 13 ⟨some 75,_,_,_,_,_⟩ ?_ hHeld ?_ ?_
       rotate_left
       ·(intro w9 hSw;obtain⟨_,_,_,k50,k58,m1,m2,m3,m4,k130,k135,k145,kn⟩:=hSw;go_simp)
        all_goals with_reducible rfl
       try simp only[Act.put,List.setIfInBounds_toArray,List.set_cons_zero,List.set_cons_succ]
       refine tk 14 ⟨some 76,_,_,_,_,_⟩ ?_ hHeld ?_ ?_
       rotate_left
       ·(intro w9 hSw;obtain⟨_,_,_,k50,k58,m1,m2,m3,m4,k130,k135,k145,kn⟩:=hSw;go_simp)
        all_goals with_reducible rfl
       try simp only[Act.put,List.setIfInBounds_toArray,List.set_cons_zero,List.set_cons_succ]
       refine tk 15 ⟨some 77,_,_,_,_,_⟩ ?_ hHeld ?_ ?_
       rotate_left
       ·(intro w9 hSw;obtain⟨_,_,_,k50,k58,m1,m2,m3,m4,k130,k135,k145,kn⟩:=hSw;go_simp)
        all_goals with_reducible rfl
       try simp only[Act.put,List.setIfInBounds_toArray,List.set_cons_zero,List.set_cons_succ]
       refine tk 16 ⟨some 78,_,_,_,_,_⟩ ?_ hHeld ?_ ?_
       rotate_left
       ·(intro w9 hSw;obtain⟨_,_,_,k50,k58,m1,m2,m3,m4,k130,k135,k145,kn⟩:=hSw;go_simp)
        all_goals with_reducible rfl
       try simp only[Act.put,List.setIfInBounds_toArray,List.set_cons_zero,List.set_cons_succ]
       refine tk 17 ⟨some 79,_,_,_,_,_⟩ ?_ hHeld ?_ ?_
       rotate_left
       ·(intro w9 hSw;obtain⟨_,_,_,k50,k58,m1,m2,m3,m4,k130,k135,k145,kn⟩:=hSw;go_simp)
        all_goals with_reducible rfl
       try simp only[Act.put,List.setIfInBounds_toArray,List.set_cons_zero,List.set_cons_succ]
       refine tk 18 ⟨some 80,_,_,_,_,_⟩ ?_ hHeld ?_ ?_
       rotate_left
       ·(intro w9 hSw;obtain⟨_,_,_,k50,k58,m1,m2,m3,m4,k130,k135,k145,kn⟩:=hSw;go_simp)
        all_goals with_reducible rfl
       try simp only[Act.put,List.setIfInBounds_toArray,List.set_cons_zero,List.set_cons_succ]
       refine tk 19 ⟨some 81,_,_,_,_,_⟩ ?_ hHeld ?_ ?_
       rotate_left
       ·(intro w9 hSw;obtain⟨_,_,_,k50,k58,m1,m2,m3,m4,k130,k135,k145,kn⟩:=hSw;go_simp)
        all_goals with_reducible rfl
       try simp only[Act.put,List.setIfInBounds_toArray,List.set_cons_zero,List.set_cons_succ]
       refine tk 20 ⟨some 82,_,_,_,_,_⟩ ?_ hHeld ?_ ?_
       rotate_left
       ·(intro w9 hSw;obtain⟨_,_,_,k50,k58,m1,m2,m3,m4,k130,k135,k145,kn⟩:=hSw;go_simp)
        all_goals with_reducible rfl
       try simp only[Act.put,List.setIfInBounds_toArray,List.set_cons_zero,List.set_cons_succ]
       refine tk 21 ⟨some 83,_,_,_,_,_⟩ ?_ hHeld ?_ ?_
       rotate_left
       ·(intro w9 hSw;obtain⟨_,_,_,k50,k58,m1,m2,m3,m4,k130,k135,k145,kn⟩:=hSw;go_simp)
        all_goals with_reducible rfl
       try simp only[Act.put,List.setIfInBounds_toArray,List.set_cons_zero,List.set_cons_succ]
       refine tk 22 ⟨some 84,_,_,_,_,_⟩ ?_ hHeld ?_ ?_
       rotate_left
       ·(intro w9 hSw;obtain⟨_,_,_,k50,k58,m1,m2,m3,m4,k130,k135,k145,kn⟩:=hSw;go_simp)
        all_goals with_reducible rfl
       try simp only[Act.put,List.setIfInBounds_toArray,List.set_cons_zero,List.set_cons_succ]
       refine tk 23 ⟨some 85,_,_,_,_,_⟩ ?_ hHeld ?_ ?_
       rotate_left
       ·(intro w9 hSw;obtain⟨_,_,_,k50,k58,m1,m2,m3,m4,k130,k135,k145,kn⟩:=hSw;go_simp)
        all_goals with_reducible rfl
       try simp only[Act.put,List.setIfInBounds_toArray,List.set_cons_zero,List.set_cons_succ]
       refine tk 24 ⟨some 86,_,_,_,_,_⟩ ?_ hHeld ?_ ?_
       rotate_left
       ·(intro w9 hSw;obtain⟨_,_,_,k50,k58,m1,m2,m3,m4,k130,k135,k145,kn⟩:=hSw;go_simp)
        all_goals with_reducible rfl
       try simp only[Act.put,List.setIfInBounds_toArray,List.set_cons_zero,List.set_cons_succ]
       refine tk 25 ⟨some 87,_,_,_,_,_⟩ ?_ hHeld ?_ ?_
       rotate_left
       ·(intro w9 hSw;obtain⟨_,_,_,k50,k58,m1,m2,m3,m4,k130,k135,k145,kn⟩:=hSw;go_simp)
        all_goals with_reducible rfl
       try simp only[Act.put,List.setIfInBounds_toArray,List.set_cons_zero,List.set_cons_succ]
       refine tk 26 ⟨some 88,_,_,_,_,_⟩ ?_ hHeld ?_ ?_
       rotate_left
       ·(intro w9 hSw;obtain⟨_,_,_,k50,k58,m1,m2,m3,m4,k130,k135,k145,kn⟩:=hSw;go_simp)
        all_goals with_reducible rfl
       try simp only[Act.put,List.setIfInBounds_toArray,List.set_cons_zero,List.set_cons_succ]
       refine tk 27 ⟨some 89,_,_,_,_,_⟩ ?_ hHeld ?_ ?_
       rotate_left
       ·(intro w9 hSw;obtain⟨_,_,_,k50,k58,m1,m2,m3,m4,k130,k135,k145,kn⟩:=hSw;go_simp)
        all_goals with_reducible rfl
       try simp only[Act.put,List.setIfInBounds_toArray,List.set_cons_zero,List.set_cons_succ]
       refine tk 28 ⟨some 90,_,_,_,_,_⟩ ?_ hHeld ?_ ?_
       rotate_left
       ·(intro w9 hSw;obtain⟨_,_,_,k50,k58,m1,m2,m3,m4,k130,k135,k145,kn⟩:=hSw;go_simp)
        all_goals with_reducible rfl
       try simp only[Act.put,List.setIfInBounds_toArray,List.set_cons_zero,List.set_cons_succ]
       refine tk 29 ⟨some 91,_,_,_,_,_⟩ ?_ hHeld ?_ ?_
       rotate_left
       ·(intro w9 hSw;obtain⟨_,_,_,k50,k58,m1,m2,m3,m4,k130,k135,k145,kn⟩:=hSw;go_simp)
        all_goals with_reducible rfl
       try simp only[Act.put,List.setIfInBounds_toArray,List.set_cons_zero,List.set_cons_succ]
       refine tk 30 ⟨some 92,_,_,_,_,_⟩ ?_ hHeld ?_ ?_
       rotate_left
       ·(intro w9 hSw;obtain⟨_,_,_,k50,k58,m1,m2,m3,m4,k130,k135,k145,kn⟩:=hSw;go_simp)
        all_goals with_reducible rfl
       try simp only[Act.put,List.setIfInBounds_toArray,List.set_cons_zero,List.set_cons_succ]
       refine tk 31 ⟨some 93,_,_,_,_,_⟩ ?_ hHeld ?_ ?_
       rotate_left
       ·(intro w9 hSw;obtain⟨_,_,_,k50,k58,m1,m2,m3,m4,k130,k135,k145,kn⟩:=hSw;go_simp)
        all_goals with_reducible rfl
       try simp only[Act.put,List.setIfInBounds_toArray,List.set_cons_zero,List.set_cons_succ]
       refine tk 32 ⟨some 94,_,_,_,_,_⟩ ?_ hHeld ?_ ?_
       rotate_left
       ·(intro w9 hSw;obtain⟨_,_,_,k50,k58,m1,m2,m3,m4,k130,k135,k145,kn⟩:=hSw;go_simp)
        all_goals with_reducible rfl
       try simp only[Act.put,List.setIfInBounds_toArray,List.set_cons_zero,List.set_cons_succ]
       refine tk 33 ⟨some 95,_,_,_,_,_⟩ ?_ hHeld ?_ ?_
       rotate_left
       ·(intro w9 hSw;obtain⟨_,_,_,k50,k58,m1,m2,m3,m4,k130,k135,k145,kn⟩:=hSw;go_simp)
        all_goals with_reducible rfl
       try simp only[Act.put,List.setIfInBounds_toArray,List.set_cons_zero,List.set_cons_succ]
       refine tk 34 ⟨some 96,_,_,_,_,_⟩ ?_ hHeld ?_ ?_
       rotate_left
       ·(intro w9 hSw;obtain⟨_,_,_,k50,k58,m1,m2,m3,m4,k130,k135,k145,kn⟩:=hSw;go_simp)
        all_goals with_reducible rfl
       try simp only[Act.put,List.setIfInBounds_toArray,List.set_cons_zero,List.set_cons_succ]
       refine tk 35 ⟨some 97,_,_,_,_,_⟩ ?_ hHeld ?_ ?_
       rotate_left
       ·(intro w9 hSw;obtain⟨_,_,_,k50,k58,m1,m2,m3,m4,k130,k135,k145,kn⟩:=hSw;go_simp)
        all_goals with_reducible rfl
       try simp only[Act.put,List.setIfInBounds_toArray,List.set_cons_zero,List.set_cons_succ]
       refine tk 36 ⟨some 98,_,_,_,_,_⟩ ?_ hHeld ?_ ?_
       rotate_left
       ·(intro w9 hSw;obtain⟨_,_,_,k50,k58,m1,m2,m3,m4,k130,k135,k145,kn⟩:=hSw;go_simp)
        all_goals with_reducible rfl
       try simp only[Act.put,List.setIfInBounds_toArray,List.set_cons_zero,List.set_cons_succ]
       refine tk 37 ⟨some 99,_,_,_,_,_⟩ ?_ hHeld ?_ ?_
       rotate_left
       ·(intro w9 hSw;obtain⟨_,_,_,k50,k58,m1,m2,m3,m4,k130,k135,k145,kn⟩:=hSw;go_simp)
        all_goals with_reducible rfl
       try simp only[Act.put,List.setIfInBounds_toArray,List.set_cons_zero,List.set_cons_succ]
       refine tk 38 ⟨some 100,_,_,_,_,_⟩ ?_ hHeld ?_ ?_
       rotate_left
       ·(intro w9 hSw;obtain⟨_,_,_,k50,k58,m1,m2,m3,m4,k130,k135,k145,kn⟩:=hSw;go_simp)
        all_goals with_reducible rfl
       try simp only[Act.put,List.setIfInBounds_toArray,List.set_cons_zero,List.set_cons_succ]
       refine tk 39 ⟨some 101,_,_,_,_,_⟩ ?_ hHeld ?_ ?_
       rotate_left
       ·(intro w9 hSw;obtain⟨_,_,_,k50,k58,m1,m2,m3,m4,k130,k135,k145,kn⟩:=hSw;go_simp)
        all_goals with_reducible rfl
       try simp only[Act.put,List.setIfInBounds_toArray,List.set_cons_zero,List.set_cons_succ]
       refine tk 40 ⟨some 102,_,_,_,_,_⟩ ?_ hHeld ?_ ?_
       rotate_left
       ·(intro w9 hSw;obtain⟨_,_,_,k50,k58,m1,m2,m3,m4,k130,k135,k145,kn⟩:=hSw;go_simp)
        all_goals with_reducible rfl
       try simp only[Act.put,List.setIfInBounds_toArray,List.set_cons_zero,List.set_cons_succ]
       refine tk 41 ⟨some 103,_,_,_,_,_⟩ ?_ hHeld ?_ ?_
       rotate_left
       ·(intro w9 hSw;obtain⟨_,_,_,k50,k58,m1,m2,m3,m4,k130,k135,k145,kn⟩:=hSw;go_simp)
        all_goals with_reducible rfl
       try simp only[Act.put,List.setIfInBounds_toArray,List.set_cons_zero,List.set_cons_succ]
       refine tk 42 ⟨some 104,_,_,_,_,_⟩ ?_ hHeld ?_ ?_
       rotate_left
       ·(intro w9 hSw;obtain⟨_,_,_,k50,k58,m1,m2,m3,m4,k130,k135,k145,kn⟩:=hSw;go_simp)
        all_goals with_reducible rfl
       try simp only[Act.put,List.setIfInBounds_toArray,List.set_cons_zero,List.set_cons_succ]
       refine tk 43 ⟨some 105,_,_,_,_,_⟩ ?_ hHeld ?_ ?_
       rotate_left
       ·(intro w9 hSw;obtain⟨_,_,_,k50,k58,m1,m2,m3,m4,k130,k135,k145,kn⟩:=hSw;go_simp)
        all_goals with_reducible rfl
       try simp only[Act.put,List.setIfInBounds_toArray,List.set_cons_zero,List.set_cons_succ]
       refine tk 44 ⟨some 106,_,_,_,_,_⟩ ?_ hHeld ?_ ?_
       rotate_left
       ·(intro w9 hSw;obtain⟨_,_,_,k50,k58,m1,m2,m3,m4,k130,k135,k145,kn⟩:=hSw;go_simp)
        all_goals with_reducible rfl
       try simp only[Act.put,List.setIfInBounds_toArray,List.set_cons_zero,List.set_cons_succ]
       refine tk 45 ⟨some 107,_,_,_,_,_⟩ ?_ hHeld ?_ ?_
       rotate_left
       ·(intro w9 hSw;obtain⟨_,_,_,k50,k58,m1,m2,m3,m4,k130,k135,k145,kn⟩:=hSw;go_simp)
        all_goals with_reducible rfl
       try simp only[Act.put,List.setIfInBounds_toArray,List.set_cons_zero,List.set_cons_succ]
       refine tk 46 ⟨some 108,_,_,_,_,_⟩ ?_ hHeld ?_ ?_
       rotate_left
       ·(intro w9 hSw;obtain⟨_,_,_,k50,k58,m1,m2,m3,m4,k130,k135,k145,kn⟩:=hSw;go_simp)
        all_goals with_reducible rfl
       try simp only[Act.put,List.setIfInBounds_toArray,List.set_cons_zero,List.set_cons_succ]
       refine tk 47 ⟨some 109,_,_,_,_,_⟩ ?_ hHeld ?_ ?_
       rotate_left
       ·(intro w9 hSw;obtain⟨_,_,_,k50,k58,m1,m2,m3,m4,k130,k135,k145,kn⟩:=hSw;go_simp)
        all_goals with_reducible rfl
       try simp only[Act.put,List.setIfInBounds_toArray,List.set_cons_zero,List.set_cons_succ]
       refine tk 48 ⟨some 110,_,_,_,_,_⟩ ?_ hHeld ?_ ?_
       rotate_left
       ·(intro w9 hSw;obtain⟨_,_,_,k50,k58,m1,m2,m3,m4,k130,k135,k145,kn⟩:=hSw;go_simp)
        all_goals with_reducible rfl
       try simp only[Act.put,List.setIfInBounds_toArray,List.set_cons_zero,List.set_cons_succ]
       refine tk 49 ⟨some 111,_,_,_,_,_⟩ ?_ hHeld ?_ ?_
       rotate_left
       ·(intro w9 hSw;obtain⟨_,_,_,k50,k58,m1,m2,m3,m4,k130,k135,k145,kn⟩:=hSw;go_simp)
        all_goals with_reducible rfl
       try simp only[Act.put,List.setIfInBounds_toArray,List.set_cons_zero,List.set_cons_succ]
       refine tk 50 ⟨some 112,_,_,_,_,_⟩ ?_ hHeld ?_ ?_
       rotate_left
       ·(intro w9 hSw;obtain⟨_,_,_,k50,k58,m1,m2,m3,m4,k130,k135,k145,kn⟩:=hSw;go_simp)
        all_goals with_reducible rfl
       try simp only[Act.put,List.setIfInBounds_toArray,List.set_cons_zero,List.set_cons_succ]
       refine tk 51 ⟨some 113,_,_,_,_,_⟩ ?_ hHeld ?_ ?_
       rotate_left
       ·(intro w9 hSw;obtain⟨_,_,_,k50,k58,m1,m2,m3,m4,k130,k135,k145,kn⟩:=hSw;go_simp)
        all_goals with_reducible rfl
       try simp only[Act.put,List.setIfInBounds_toArray,List.set_cons_zero,List.set_cons_succ]
       refine tk 52 ⟨some 114,_,_,_,_,_⟩ ?_ hHeld ?_ ?_
       rotate_left
       ·(intro w9 hSw;obtain⟨_,_,_,k50,k58,m1,m2,m3,m4,k130,k135,k145,kn⟩:=hSw;go_simp)
        all_goals with_reducible rfl
       try simp only[Act.put,List.setIfInBounds_toArray,List.set_cons_zero,List.set_cons_succ]
       refine tk 53 ⟨some 115,_,_,_,_,_⟩ ?_ hHeld ?_ ?_
       rotate_left
       ·(intro w9 hSw;refine yields34 (x:= .tmp 12) (g:=b12) (cs:=pcs (numV (7,0))) ?_ ?_ rfl hSw.2.2.1<;>rfl)
       try simp only[Act.put,List.setIfInBounds_toArray,List.set_cons_zero,List.set_cons_succ]
       refine wpAnyH_ready (rs:= [54]) (by kernel_rfl) (by simp) ?_
       refine(AllReadyH.cons (o:=⟨some 116,_,_,_,_,_⟩) rfl (fun KK hK=> ?_) AllReadyH.nil)
       ·(try rw[if_pos (by rfl)])
        go_simp
        refine(H7.out _).mono ?_
        rintro e x5 ⟨rfl,hb⟩
        have hs:=hs.trans (hb.mono hs.size)
        have hz:=hz.trans (hb.mono hz.size)
        clear hb
        have hS9:World.vb x5 b2 (pcs (numV (7,0)))∧World.vb x5 b3 (pcs (txtV (mk [195,169,108,108])))∧World.vb x5 b12 (pcs (numV (7,0)))∧x5.cell? ⟨b5,0,none⟩=some (.int .i64 5)∧x5.cell? ⟨b5,8,none⟩=some (.slice (some ⟨gr,0,none⟩) 2 cr)∧x5.cell? ⟨gr,1,none⟩=some (.int .i64 13)∧x5.cell? ⟨gr,2,none⟩=some (.int .i64 (-1))∧x5.cell? ⟨gr,13,none⟩=some (.int .i64 25)∧x5.cell? ⟨gr,14,none⟩=some (.int .i64 (-1))∧x5.cell? ⟨b13,0,none⟩=some (.int .i64 4)∧x5.cell? ⟨b13,5,none⟩=some (.int .i64 5)∧x5.cell? ⟨b14,5,none⟩=some (.int .i64 3)∧x5.cell? ⟨gn,0,none⟩=some (.string ⟨#[65,66,83]⟩):=⟨(HS3.out _ hs).1,(HS3.out _ hs).2.1,(HS3.out _ hs).2.2,(HF.out _ hs).1,(HF.out _ hs).2.1,(HF.out _ hs).2.2.1,(HF.out _ hs).2.2.2.1,(HF.out _ hs).2.2.2.2.1,(HF.out _ hs).2.2.2.2.2.1,(HF.out _ hs).2.2.2.2.2.2.1,(HF.out _ hs).2.2.2.2.2.2.2.1,(HF.out _ hs).2.2.2.2.2.2.2.2,HN.out _ hz⟩
        refine hK.out _ _ hS9 ?_
        clear hK KK hHeld
        intro hHeld
        try simp only[Act.put,List.setIfInBounds_toArray,List.set_cons_zero,List.set_cons_succ,List.getElem_toArray,List.getElem_cons_zero,List.getElem_cons_succ]
        refine wpAnyH_ready (rs:= [55]) (by kernel_rfl) (by simp) ?_
        refine(AllReadyH.cons (o:=⟨some 117,_,_,_,_,_⟩) rfl (fun KK hK=> ?_) AllReadyH.nil)
        ·(try rw[if_pos (by rfl)])
         go_simp
         refine(HS7.out _).mono ?_
         rintro e x6 ⟨rfl,hb⟩
         have hs:=hs.trans (hb.mono hs.size)
         have hz:=hz.trans (hb.mono hz.size)
         clear hb
         have hS9:World.vb x6 b2 (pcs (numV (7,0)))∧World.vb x6 b3 (pcs (txtV (mk [195,169,108,108])))∧World.vb x6 b12 (pcs (numV (7,0)))∧x6.cell? ⟨b5,0,none⟩=some (.int .i64 5)∧x6.cell? ⟨b5,8,none⟩=some (.slice (some ⟨gr,0,none⟩) 2 cr)∧x6.cell? ⟨gr,1,none⟩=some (.int .i64 13)∧x6.cell? ⟨gr,2,none⟩=some (.int .i64 (-1))∧x6.cell? ⟨gr,13,none⟩=some (.int .i64 25)∧x6.cell? ⟨gr,14,none⟩=some (.int .i64 (-1))∧x6.cell? ⟨b13,0,none⟩=some (.int .i64 4)∧x6.cell? ⟨b13,5,none⟩=some (.int .i64 5)∧x6.cell? ⟨b14,5,none⟩=some (.int .i64 3)∧x6.cell? ⟨gn,0,none⟩=some (.string ⟨#[65,66,83]⟩):=⟨(HS3.out _ hs).1,(HS3.out _ hs).2.1,(HS3.out _ hs).2.2,(HF.out _ hs).1,(HF.out _ hs).2.1,(HF.out _ hs).2.2.1,(HF.out _ hs).2.2.2.1,(HF.out _ hs).2.2.2.2.1,(HF.out _ hs).2.2.2.2.2.1,(HF.out _ hs).2.2.2.2.2.2.1,(HF.out _ hs).2.2.2.2.2.2.2.1,(HF.out _ hs).2.2.2.2.2.2.2.2,HN.out _ hz⟩
         refine hK.out _ _ hS9 ?_
         clear hK KK hHeld
         intro hHeld
         try simp only[Act.put,List.setIfInBounds_toArray,List.set_cons_zero,List.set_cons_succ,List.getElem_toArray,List.getElem_cons_zero,List.getElem_cons_succ]
         refine tk 56 ⟨some 118,_,_,_,_,_⟩ ?_ hHeld ?_ ?_
         rotate_left
         ·(intro w9 hSw;obtain⟨_,_,_,k50,k58,m1,m2,m3,m4,k130,k135,k145,kn⟩:=hSw;go_simp)
          all_goals with_reducible rfl
         try simp only[Act.put,List.setIfInBounds_toArray,List.set_cons_zero,List.set_cons_succ]
         refine tk 57 ⟨some 119,_,_,_,_,_⟩ ?_ hHeld ?_ ?_
         rotate_left
         ·(intro w9 hSw;obtain⟨_,_,_,k50,k58,m1,m2,m3,m4,k130,k135,k145,kn⟩:=hSw;go_simp)
          all_goals with_reducible rfl
         try simp only[Act.put,List.setIfInBounds_toArray,List.set_cons_zero,List.set_cons_succ]
         refine tk 58 ⟨some 120,_,_,_,_,_⟩ ?_ hHeld ?_ ?_
         rotate_left
         ·(intro w9 hSw;obtain⟨_,_,_,k50,k58,m1,m2,m3,m4,k130,k135,k145,kn⟩:=hSw;go_simp)
          all_goals with_reducible rfl
         try simp only[Act.put,List.setIfInBounds_toArray,List.set_cons_zero,List.set_cons_succ]
         refine tk 59 ⟨some 121,_,_,_,_,_⟩ ?_ hHeld ?_ ?_
         rotate_left
         ·(intro w9 hSw;obtain⟨_,_,_,k50,k58,m1,m2,m3,m4,k130,k135,k145,kn⟩:=hSw;go_simp)
          all_goals with_reducible rfl
         try simp only[Act.put,List.setIfInBounds_toArray,List.set_cons_zero,List.set_cons_succ]
         refine tk 60 ⟨some 122,_,_,_,_,_⟩ ?_ hHeld ?_ ?_
         rotate_left
         ·(intro w9 hSw;obtain⟨_,_,_,k50,k58,m1,m2,m3,m4,k130,k135,k145,kn⟩:=hSw;go_simp)
          all_goals with_reducible rfl
         try simp only[Act.put,List.setIfInBounds_toArray,List.set_cons_zero,List.set_cons_succ]
         refine tk 61 ⟨some 123,_,_,_,_,_⟩ ?_ hHeld ?_ ?_
         rotate_left
         ·(intro w9 hSw;obtain⟨_,_,_,k50,k58,m1,m2,m3,m4,k130,k135,k145,kn⟩:=hSw;go_simp)
          all_goals with_reducible rfl
         try simp only[Act.put,List.setIfInBounds_toArray,List.set_cons_zero,List.set_cons_succ]
         refine tk 62 ⟨some 124,_,_,_,_,_⟩ ?_ hHeld ?_ ?_
         rotate_left
         ·(intro w9 hSw;obtain⟨_,_,_,k50,k58,m1,m2,m3,m4,k130,k135,k145,kn⟩:=hSw;go_simp)
          all_goals with_reducible rfl
         try simp only[Act.put,List.setIfInBounds_toArray,List.set_cons_zero,List.set_cons_succ]
         refine tk 63 ⟨some 125,_,_,_,_,_⟩ ?_ hHeld ?_ ?_
         rotate_left
         ·(intro w9 hSw;obtain⟨_,_,_,k50,k58,m1,m2,m3,m4,k130,k135,k145,kn⟩:=hSw;go_simp)
          all_goals with_reducible rfl
         try simp only[Act.put,List.setIfInBounds_toArray,List.set_cons_zero,List.set_cons_succ]
         refine tk 64 ⟨some 126,_,_,_,_,_⟩ ?_ hHeld ?_ ?_
         rotate_left
         ·(intro w9 hSw;obtain⟨_,_,_,k50,k58,m1,m2,m3,m4,k130,k135,k145,kn⟩:=hSw;go_simp)
          all_goals with_reducible rfl
         try simp only[Act.put,List.setIfInBounds_toArray,List.set_cons_zero,List.set_cons_succ]
         refine tk 65 ⟨some 127,_,_,_,_,_⟩ ?_ hHeld ?_ ?_
         rotate_left
         ·(intro w9 hSw;obtain⟨_,_,_,k50,k58,m1,m2,m3,m4,k130,k135,k145,kn⟩:=hSw;go_simp)
          all_goals with_reducible rfl
         try simp only[Act.put,List.setIfInBounds_toArray,List.set_cons_zero,List.set_cons_succ]
         refine tk 66 ⟨some 128,_,_,_,_,_⟩ ?_ hHeld ?_ ?_
         rotate_left
         ·(intro w9 hSw;obtain⟨_,_,_,k50,k58,m1,m2,m3,m4,k130,k135,k145,kn⟩:=hSw;go_simp)
          all_goals with_reducible rfl
         try simp only[Act.put,List.setIfInBounds_toArray,List.set_cons_zero,List.set_cons_succ]
         refine tk 67 ⟨some 129,_,_,_,_,_⟩ ?_ hHeld ?_ ?_
         rotate_left
         ·(intro w9 hSw;obtain⟨_,_,_,k50,k58,m1,m2,m3,m4,k130,k135,k145,kn⟩:=hSw;go_simp)
          all_goals with_reducible rfl
         try simp only[Act.put,List.setIfInBounds_toArray,List.set_cons_zero,List.set_cons_succ]
         refine tk 68 ⟨some 130,_,_,_,_,_⟩ ?_ hHeld ?_ ?_
         rotate_left
         ·(intro w9 hSw;obtain⟨_,_,_,k50,k58,m1,m2,m3,m4,k130,k135,k145,kn⟩:=hSw;go_simp)
          all_goals with_reducible rfl
         try simp only[Act.put,List.setIfInBounds_toArray,List.set_cons_zero,List.set_cons_succ]
         refine tk 69 ⟨some 131,_,_,_,_,_⟩ ?_ hHeld ?_ ?_
         rotate_left
         ·(intro w9 hSw;obtain⟨_,_,_,k50,k58,m1,m2,m3,m4,k130,k135,k145,kn⟩:=hSw;go_simp)
          all_goals with_reducible rfl
         try simp only[Act.put,List.setIfInBounds_toArray,List.set_cons_zero,List.set_cons_succ]
         refine tk 70 ⟨some 132,_,_,_,_,_⟩ ?_ hHeld ?_ ?_
         rotate_left
         ·(intro w9 hSw;obtain⟨_,_,_,k50,k58,m1,m2,m3,m4,k130,k135,k145,kn⟩:=hSw;go_simp)
          all_goals with_reducible rfl
         try simp only[Act.put,List.setIfInBounds_toArray,List.set_cons_zero,List.set_cons_succ]
         refine tk 71 ⟨some 133,_,_,_,_,_⟩ ?_ hHeld ?_ ?_
         rotate_left
         ·(intro w9 hSw;obtain⟨_,_,_,k50,k58,m1,m2,m3,m4,k130,k135,k145,kn⟩:=hSw;go_simp)
          all_goals with_reducible rfl
         try simp only[Act.put,List.setIfInBounds_toArray,List.set_cons_zero,List.set_cons_succ]
         refine tk 72 ⟨some 134,_,_,_,_,_⟩ ?_ hHeld ?_ ?_
         rotate_left
         ·(intro w9 hSw;obtain⟨_,_,_,k50,k58,m1,m2,m3,m4,k130,k135,k145,kn⟩:=hSw;go_simp)
          all_goals with_reducible rfl
         try simp only[Act.put,List.setIfInBounds_toArray,List.set_cons_zero,List.set_cons_succ]
         refine tk 73 ⟨some 135,_,_,_,_,_⟩ ?_ hHeld ?_ ?_
         rotate_left
         ·(intro w9 hSw;obtain⟨_,_,_,k50,k58,m1,m2,m3,m4,k130,k135,k145,kn⟩:=hSw;go_simp)
          all_goals with_reducible rfl
         try simp only[Act.put,List.setIfInBounds_toArray,List.set_cons_zero,List.set_cons_succ]
         refine tk 74 ⟨some 136,_,_,_,_,_⟩ ?_ hHeld ?_ ?_
         rotate_left
         ·(intro w9 hSw;obtain⟨_,_,_,k50,k58,m1,m2,m3,m4,k130,k135,k145,kn⟩:=hSw;go_simp)
          all_goals with_reducible rfl
         try simp only[Act.put,List.setIfInBounds_toArray,List.set_cons_zero,List.set_cons_succ]
         refine tk 75 ⟨some 137,_,_,_,_,_⟩ ?_ hHeld ?_ ?_
         rotate_left
         ·(intro w9 hSw;obtain⟨_,_,_,k50,k58,m1,m2,m3,m4,k130,k135,k145,kn⟩:=hSw;go_simp)
          all_goals with_reducible rfl
         try simp only[Act.put,List.setIfInBounds_toArray,List.set_cons_zero,List.set_cons_succ]
         refine tk 76 ⟨some 138,_,_,_,_,_⟩ ?_ hHeld ?_ ?_
         rotate_left
         ·(intro w9 hSw;obtain⟨_,_,_,k50,k58,m1,m2,m3,m4,k130,k135,k145,kn⟩:=hSw;go_simp)
          all_goals with_reducible rfl
         try simp only[Act.put,List.setIfInBounds_toArray,List.set_cons_zero,List.set_cons_succ]
         refine tk 77 ⟨some 139,_,_,_,_,_⟩ ?_ hHeld ?_ ?_
         rotate_left
         ·(intro w9 hSw;obtain⟨_,_,_,k50,k58,m1,m2,m3,m4,k130,k135,k145,kn⟩:=hSw;go_simp)
          all_goals with_reducible rfl
         try simp only[Act.put,List.setIfInBounds_toArray,List.set_cons_zero,List.set_cons_succ]
         refine tk 78 ⟨some 140,_,_,_,_,_⟩ ?_ hHeld ?_ ?_
         rotate_left
         ·(intro w9 hSw;obtain⟨_,_,_,k50,k58,m1,m2,m3,m4,k130,k135,k145,kn⟩:=hSw;go_simp)
          all_goals with_reducible rfl
         try simp only[Act.put,List.setIfInBounds_toArray,List.set_cons_zero,List.set_cons_succ]
         refine tk 79 ⟨some 141,_,_,_,_,_⟩ ?_ hHeld ?_ ?_
         rotate_left
         ·(intro w9 hSw;obtain⟨_,_,_,k50,k58,m1,m2,m3,m4,k130,k135,k145,kn⟩:=hSw;go_simp)
          all_goals with_reducible rfl
         try simp only[Act.put,List.setIfInBounds_toArray,List.set_cons_zero,List.set_cons_succ]
         refine tk 80 ⟨some 142,_,_,_,_,_⟩ ?_ hHeld ?_ ?_
         rotate_left
         ·(intro w9 hSw;obtain⟨_,_,_,k50,k58,m1,m2,m3,m4,k130,k135,k145,kn⟩:=hSw;go_simp)
          all_goals with_reducible rfl
         try simp only[Act.put,List.setIfInBounds_toArray,List.set_cons_zero,List.set_cons_succ]
         refine tk 81 ⟨some 143,_,_,_,_,_⟩ ?_ hHeld ?_ ?_
         rotate_left
         ·(intro w9 hSw;obtain⟨_,_,_,k50,k58,m1,m2,m3,m4,k130,k135,k145,kn⟩:=hSw;go_simp)
          all_goals with_reducible rfl
         try simp only[Act.put,List.setIfInBounds_toArray,List.set_cons_zero,List.set_cons_succ]
         refine tk 82 ⟨some 144,_,_,_,_,_⟩ ?_ hHeld ?_ ?_
         rotate_left
         ·(intro w9 hSw;obtain⟨_,_,_,k50,k58,m1,m2,m3,m4,k130,k135,k145,kn⟩:=hSw;go_simp)
          all_goals with_reducible rfl
         try simp only[Act.put,List.setIfInBounds_toArray,List.set_cons_zero,List.set_cons_succ]
         refine tk 83 ⟨some 0,_,_,_,_,_⟩ ?_ hHeld ?_ ?_
         rotate_left
         ·(intro w9 hSw;obtain⟨_,_,_,k50,k58,m1,m2,m3,m4,k130,k135,k145,kn⟩:=hSw;go_simp)
          all_goals with_reducible rfl
         try simp only[Act.put,List.setIfInBounds_toArray,List.set_cons_zero]
         refine wpAnyH_done (by kernel_rfl) ?_ _
         try simp only[Act.put,List.setIfInBounds_toArray,List.set_cons_zero,List.set_cons_succ,List.getElem_toArray,List.getElem_cons_zero,List.getElem_cons_succ]
         go_wp2_with fail
         go_ret
         exact⟨rfl,HBa.out.trans (hs.mono HBa.out.size)⟩
end Go.Proofs.YtmhfioimgllgeaaGreatDoor
