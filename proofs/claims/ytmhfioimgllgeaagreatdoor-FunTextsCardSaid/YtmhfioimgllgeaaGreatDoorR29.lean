/- Merged: One, Cmv. -/
import Derived.Test.YtmhfioimgllgeaaGreatDoorR01
import Derived.Test.YtmhfioimgllgeaaGreatDoorR26
import Derived.Test.YtmhfioimgllgeaaGreatDoorR15
import Derived.Test.YtmhfioimgllgeaaGreatDoorR24
namespace Go.Proofs.YtmhfioimgllgeaaGreatDoor
open Go Go.RowKit Go.Shelf
theorem cmp_int (x y:Int) (w:World):Calls Tryz.prog 65 #[.int .i64 x,.int .i64 y] w (Gives (.int .i64 (ordI x y)) w):=by
 refine(Tryz.cmp_Compare_int x y w).mono ?_
 rintro e w' ⟨rfl,rfl⟩
 exact⟨rfl,Below.refl _ _⟩
theorem cmp_str (a b:ByteArray) (w:World):Calls Tryz.prog 109 #[.string a,.string b] w (Gives (.int .i64 (Lib.compareBytes a.data.toList b.data.toList)) w):=by
 refine(Tryz.strings_Compare a b w).mono ?_
 rintro e w' ⟨rfl,rfl⟩
 exact⟨rfl,Below.refl _ _⟩
set_option maxRecDepth 100000 in
set_option maxHeartbeats 4000000 in
/-- Of two kinds. -/
theorem one_kinds (C C':Array Value) (k k':Int) (w:World) (x0:C[0]? =some (.int .i64 k)) (y0:C'[0]? =some (.int .i64 k')) (hne:k≠k'):
 Calls Tryz.prog 63 #[.agg C,.agg C'] w (Gives (.int .i64 (ordI k k')) w):=by
 have f0:(k != k')=true:=by simpa using hne
 clear hne
 go_enter Tryz.func63,Tryz.ntmps63
 go_wp2_with fail
 refine(cmp_int k k' _).mono ?_
 rintro e2 w2 ⟨rfl,hB2⟩
 have hB:=(((Below.refl _ w).alloc (Nat.le_refl _) (.cells C 39)).alloc (by simp) (.cells C' 39)).trans (hB2.mono (by simp;omega))
 go_wp2_with fail
 go_ret
 exact⟨rfl,hB⟩
set_option maxRecDepth 100000 in
set_option maxHeartbeats 4000000 in
theorem one_0 (w:World):Calls Tryz.prog 63 #[.agg (pcs {}),.agg (pcs {})] w (Gives (.int .i64 0) w):=by
 obtain⟨C,hC⟩:∃C,pcs {}=C:=⟨_,rfl⟩
 have x0:C[0]? =some (.int .i64 0):=by rw[←hC];rfl
 rw[hC]
 clear hC
 go_enter Tryz.func63,Tryz.ntmps63
 go_wp2_with fail
 go_ret
 exact⟨rfl,((Below.refl _ w).alloc (Nat.le_refl _) _).alloc (by simp) _⟩
set_option maxRecDepth 100000 in
set_option maxHeartbeats 4000000 in
theorem one_1 (M E M' E':Int) (w:World) (h0: -9223372036854775808≤M) (h1:M≤9223372036854775807) (h0': -9223372036854775808≤M') (h1':M'≤9223372036854775807):
 Calls Tryz.prog 63 #[.agg (pcs (numV (M,E))),.agg (pcs (numV (M',E')))] w (Gives (.int .i64 (cmpD M E M' E')) w):=by
 have HT:=Lib.hid (cmp_any M E M' E' · h0 h1 h0' h1')
 obtain⟨C,hC⟩:∃C,pcs (numV (M,E))=C:=⟨_,rfl⟩
 obtain⟨C',hC'⟩:∃C',pcs (numV (M',E'))=C':=⟨_,rfl⟩
 have x0:C[0]? =some (.int .i64 1):=by rw[←hC];rfl
 have x1:C[1]? =some (.int .i64 M):=by rw[←hC];rfl
 have x2:C[2]? =some (.int .i64 E):=by rw[←hC];rfl
 have y0:C'[0]? =some (.int .i64 1):=by rw[←hC'];rfl
 have y1:C'[1]? =some (.int .i64 M'):=by rw[←hC'];rfl
 have y2:C'[2]? =some (.int .i64 E'):=by rw[←hC'];rfl
 rw[hC,hC']
 clear hC hC' h0 h1 h0' h1'
 go_enter Tryz.func63,Tryz.ntmps63
 go_wp2_with fail
 refine(HT.out _).mono ?_
 rintro e2 w2 ⟨rfl,hB2⟩
 have hB:=(((Below.refl _ w).alloc (Nat.le_refl _) (.cells C 39)).alloc (by simp) (.cells C' 39)).trans (hB2.mono (by simp;omega))
 go_wp2_with fail
 go_ret
 exact⟨rfl,hB⟩
set_option maxRecDepth 100000 in
set_option maxHeartbeats 4000000 in
theorem one_2 (s s':ByteArray) (w:World) (hs:s.size≤4294967280) (hs':s'.size≤4294967280):
 Calls Tryz.prog 63 #[.agg (pcs (txtV s)),.agg (pcs (txtV s'))] w (Gives (.int .i64 (Lib.compareBytes (lowL s.data.toList) (lowL s'.data.toList))) w):=by
 have HF:=Lib.hid (show ∀t,(t=s∨t=s')→∀W,Calls Tryz.prog 110 #[.string t] W (Gives (.string (foldS t)) W)from fun t ht W=>fold_any t W (by rcases ht with e|e<;>subst e<;>assumption))
 have HR:Hid (Lib.compareBytes (lowL s.data.toList) (lowL s'.data.toList)=Lib.compareBytes (foldS s).data.toList (foldS s').data.toList):=Lib.hid rfl
 obtain⟨C,hC⟩:∃C,pcs (txtV s)=C:=⟨_,rfl⟩
 obtain⟨C',hC'⟩:∃C',pcs (txtV s')=C':=⟨_,rfl⟩
 have x0:C[0]? =some (.int .i64 2):=by rw[←hC];rfl
 have x3:C[3]? =some (.string s):=by rw[←hC];rfl
 have y0:C'[0]? =some (.int .i64 2):=by rw[←hC'];rfl
 have y3:C'[3]? =some (.string s'):=by rw[←hC'];rfl
 rw[hC,hC',HR.out]
 clear hC hC' hs hs' HR
 go_enter Tryz.func63,Tryz.ntmps63
 go_wp2_with fail
 obtain⟨W,hW⟩:∃W,W=(w.alloc (.cells C 39)).alloc (.cells C' 39):=⟨_,rfl⟩
 rw[←hW]
 have hvx:World.vb W w.heap.size C:=by rw[hW];exact(World.vb_new w C).alloc _
 have hvy:World.vb W (w.heap.size+1) C':=by rw[hW];exact World.vb_new' _ _ _ (by simp)
 have hB:Below w.heap.size w W:=by rw[hW];exact((Below.refl _ w).alloc (Nat.le_refl _) _).alloc (by simp) _
 clear hW
 have hvx:=hvx.drew
 have hvy:=hvy.drew
 have hB:=hB.drew
 have c1:=hvx.cell x3
 have c2:=hvy.cell y3
 go_region_held3 (fun w'=>w'.cell? ⟨w.heap.size,3,none⟩=some (.string s)∧w'.cell? ⟨w.heap.size+1,3,none⟩=some (.string s'))
  (first|exact⟨c1,c2⟩|fail)
  (first|(go_at_call 110;refine(HF.out _ ?_ _).mono ?_;(first|exact .inl rfl|exact .inr rfl);rintro e2 w2 ⟨rfl,hB2⟩;have hvx:=hvx.below hB2 hvx.lt;have hvy:=hvy.below hB2 hvy.lt;have hB:=hB.trans (hB2.mono hB.size);have c1:=hvx.cell x3;have c2:=hvy.cell y3)|(go_at_call 109;refine(cmp_str _ _ _).mono ?_;rintro e2 w2 ⟨rfl,hB2⟩;have hvx:=hvx.below hB2 hvx.lt;have hvy:=hvy.below hB2 hvy.lt;have hB:=hB.trans (hB2.mono hB.size);have c1:=hvx.cell x3;have c2:=hvy.cell y3)|fail)
 all_goals
  go_wp2_with fail
  go_ret
  exact⟨rfl,hB⟩
set_option maxRecDepth 100000 in
set_option maxHeartbeats 4000000 in
theorem one_3 (b b':Bool) (w:World):Calls Tryz.prog 63 #[.agg (pcs (trV b)),.agg (pcs (trV b'))] w (Gives (.int .i64 (ordI (truI b) (truI b'))) w):=by
 obtain⟨C,hC⟩:∃C,pcs (trV b)=C:=⟨_,rfl⟩
 obtain⟨C',hC'⟩:∃C',pcs (trV b')=C':=⟨_,rfl⟩
 have x0:C[0]? =some (.int .i64 3):=by rw[←hC];rfl
 have x4:C[4]? =some (.bool b):=by rw[←hC];rfl
 have y0:C'[0]? =some (.int .i64 3):=by rw[←hC'];rfl
 have y4:C'[4]? =some (.bool b'):=by rw[←hC'];rfl
 rw[hC,hC']
 clear hC hC'
 cases b<;>cases b'
 all_goals
  go_enter Tryz.func63,Tryz.ntmps63
  go_wp2_with fail
  go_ret
  exact⟨rfl,((Below.refl _ w).alloc (Nat.le_refl _) _).alloc (by simp) _⟩
set_option maxRecDepth 100000 in
set_option maxHeartbeats 4000000 in
theorem one_4 (n n':Int) (w:World):Calls Tryz.prog 63 #[.agg (pcs (errV n)),.agg (pcs (errV n'))] w (Gives (.int .i64 (ordI n n')) w):=by
 obtain⟨C,hC⟩:∃C,pcs (errV n)=C:=⟨_,rfl⟩
 obtain⟨C',hC'⟩:∃C',pcs (errV n')=C':=⟨_,rfl⟩
 have x0:C[0]? =some (.int .i64 4):=by rw[←hC];rfl
 have x5:C[5]? =some (.int .i64 n):=by rw[←hC];rfl
 have y0:C'[0]? =some (.int .i64 4):=by rw[←hC'];rfl
 have y5:C'[5]? =some (.int .i64 n'):=by rw[←hC'];rfl
 rw[hC,hC']
 clear hC hC'
 go_enter Tryz.func63,Tryz.ntmps63
 go_wp2_with fail
 refine(cmp_int n n' _).mono ?_
 rintro e2 w2 ⟨rfl,hB2⟩
 have hB:=(((Below.refl _ w).alloc (Nat.le_refl _) (.cells C 39)).alloc (by simp) (.cells C' 39)).trans (hB2.mono (by simp;omega))
 go_wp2_with fail
 go_ret
 exact⟨rfl,hB⟩
theorem txt_small {s:ByteArray} (h:txtOk s=true):s.size≤200:=by
 unfold txtOk at h
 simp at h
 exact h.1
/-- Of two plain ones. -/
theorem one_any (x y:Vl) (w:World) (hx:plainV x=true) (hy:plainV y=true):Calls Tryz.prog 63 #[.agg (pcs x),.agg (pcs y)] w (Gives (.int .i64 (oneV x y)) w):=by
 by_cases hk:x.k=y.k
 ·rw[oneV_lex,if_pos hk]
  unfold kindV
  rcases plain_cases hx with e|⟨p,e,hr⟩|⟨s,e,hs⟩|⟨b,e⟩|⟨n,e,_⟩<;>rcases plain_cases hy with e'|⟨p',e',hr'⟩|⟨s',e',hs'⟩|⟨b',e'⟩|⟨n',e',_⟩<;>subst e<;>subst e'<;>first|(cases hk;done)|skip
  ·exact one_0 w
  ·unfold RightP at hr hr'
   exact one_1 p.1 p.2 p'.1 p'.2 w (by omega) (by omega) (by omega) (by omega)
  ·have h1:=txt_small hs
   have h2:=txt_small hs'
   exact one_2 s s' w (by omega) (by omega)
  ·exact one_3 b b' w
  ·exact one_4 n n' w
 ·rw[oneV_lex,if_neg hk]
  exact one_kinds _ _ _ _ w rfl rfl hk
theorem enters71 :∀args w,(callFunc 63 args).run Tryz.prog w= .ok (.enter 63 args) w:=enters_of Tryz.func63 (by kernel_rfl) rfl
theorem oneL_drop {l r:List Vl} {K:Nat} (h:∀i x y,i<K→l[i]? =some x→r[i]? =some y→oneV x y=0) (hl:K≤l.length) (hr:K≤r.length):oneL l r=oneL (l.drop K) (r.drop K):=by
 induction K generalizing l r with
 |zero=>simp
 |succ K ih=>
  cases l with
  |nil=>simp at hl
  |cons a l=>
   cases r with
   |nil=>simp at hr
   |cons b r=>
    rw[oneL,if_pos (h 0 a b (by omega) rfl rfl),List.drop_succ_cons,List.drop_succ_cons]
    exact ih (fun i x y hi hx hy=>h (i+1) x y (by omega) (by simpa using hx) (by simpa using hy)) (by simpa using hl) (by simpa using hr)
theorem oneL_at {l r:List Vl} {K:Nat} {x y:Vl} (h:∀i x y,i<K→l[i]? =some x→r[i]? =some y→oneV x y=0) (hx:l[K]? =some x) (hy:r[K]? =some y) (hne:oneV x y≠0):oneL l r=oneV x y:=by
 have h1:=List.getElem?_eq_some_iff.1 hx
 have h2:=List.getElem?_eq_some_iff.1 hy
 obtain⟨h1,e1⟩:=h1
 obtain⟨h2,e2⟩:=h2
 rw[oneL_drop h (by omega) (by omega),List.drop_eq_getElem_cons h1,List.drop_eq_getElem_cons h2,e1,e2,oneL,if_neg hne]
theorem oneL_end {l r:List Vl} {K:Nat} (h:∀i x y,i<K→l[i]? =some x→r[i]? =some y→oneV x y=0) (hl:K≤l.length) (hr:K≤r.length) (he:K=l.length∨K=r.length):
 oneL l r=if r.length<l.length then 1 else if l.length<r.length then -1 else 0:=by
 rw[oneL_drop h hl hr]
 rcases he with e|e<;>subst e
 ·rw[List.drop_length]
  cases hd:r.drop l.length with
  |nil=>
   have:(r.drop l.length).length=0:=by rw[hd];rfl
   rw[List.length_drop]at this
   rw[oneL,if_neg (by omega),if_neg (by omega)]
  |cons b t=>
   have:(r.drop l.length).length=t.length+1:=by rw[hd];rfl
   rw[List.length_drop]at this
   rw[oneL,if_neg (by omega),if_pos (by omega)]
 ·rw[List.drop_length]
  cases hd:l.drop r.length with
  |nil=>
   have:(l.drop r.length).length=0:=by rw[hd];rfl
   rw[List.length_drop]at this
   rw[oneL,if_neg (by omega),if_neg (by omega)]
  |cons b t=>
   have:(l.drop r.length).length=t.length+1:=by rw[hd];rfl
   rw[List.length_drop]at this
   rw[oneL,if_pos (by omega)]
set_option maxRecDepth 100000 in
set_option maxHeartbeats 4000000 in
theorem cmpfunc_any (n:Nat) (l r:List Vl) (L R:Value) (w:World) (hpl:∀x∈l,plainV x=true) (hpr:∀x∈r,plainV x=true)
 (hl:VsAt (Rp w w.heap.size (n+1)) w w.heap.size L l) (hr:VsAt (Rp w w.heap.size (n+1)) w w.heap.size R r):
 Calls Tryz.prog 66 #[L,R,.func (.func 63) #[] #[]] w (Gives (.int .i64 (oneL l r)) w):=by
 obtain⟨p,c,rfl,l1,l2,l3,_,HL⟩:=hl
 obtain⟨p',c',rfl,r1,r2,r3,_,HR⟩:=hr
 have HLL:=Lib.hid HL
 have HRR:=Lib.hid HR
 have HPL:=Lib.hid hpl
 have HPR:=Lib.hid hpr
 clear HL HR hpl hpr
 unfold maxLen at l2 r2
 have e71:=enters71
 obtain⟨D,hD⟩:∃D,oneL l r=D:=⟨_,rfl⟩
 rw[hD]
 have HD:=Lib.hid hD
 clear hD
 go_enter Tryz.func66,Tryz.ntmps66
 go_wp2_with fail
 go_loopw [13] (fun i wr=>∃K:Nat,K≤l.length∧K≤r.length∧i= .int .i64 (K:Int)∧Below w.heap.size w wr∧Hid (∀i x y,i<K→l[i]? =some x→r[i]? =some y→oneV x y=0)) (fun i _=>l.length-(intOf i).toNat)
 case atStart=>exact⟨0,Nat.zero_le _,Nat.zero_le _,rfl,Below.refl _ _,Lib.hid fun i x y h=>by omega⟩
 case round=>
  obtain⟨K,hK,hK2,rfl,hB,HE⟩:=hrel
  by_cases hlt:K<l.length
  ·have hKI:(K:Int)<(l.length:Int):=by omega
   obtain⟨x,hx⟩:∃x,l[K]? =some x:=⟨_,List.getElem?_eq_getElem hlt⟩
   obtain⟨g,off,cs,rfl,hg,hs,hx1,hx2⟩:=HLL.out K x hx
   have hxp:=HPL.out x (List.mem_of_getElem? hx)
   have hcs:=plain_cells hx1 hxp
   injection hcs with hcs
   subst hcs
   have HC:=Lib.hid (show ∀W,Below w.heap.size w W→∀j u,(pcs x)[j]? =some u→W.cell? ⟨g,off+K*12+j,none⟩=some u from fun W hW j u hj=>(hW.cell (p:=⟨g,_,none⟩) hg).trans (hx2 j u hj))
   have HO:=Lib.hid (pcs_one x)
   have hBz:=hB.size
   have Hx:=Lib.hid hx
   by_cases hlt2:K<r.length
   ·have hKI2:(K:Int)<(r.length:Int):=by omega
    obtain⟨y,hy⟩:∃y,r[K]? =some y:=⟨_,List.getElem?_eq_getElem hlt2⟩
    obtain⟨g',off',cs',rfl,hg',hs',hy1,hy2⟩:=HRR.out K y hy
    have hyp:=HPR.out y (List.mem_of_getElem? hy)
    have hcs':=plain_cells hy1 hyp
    injection hcs' with hcs'
    subst hcs'
    have HC':=Lib.hid (show ∀W,Below w.heap.size w W→∀j u,(pcs y)[j]? =some u→W.cell? ⟨g',off'+K*12+j,none⟩=some u from fun W hW j u hj=>(hW.cell (p:=⟨g',_,none⟩) hg').trans (hy2 j u hj))
    have HO':=Lib.hid (pcs_one y)
    have HX:=Lib.hid (show ∀W,Calls Tryz.prog 63 #[.agg (pcs x),.agg (pcs y)] W (Gives (.int .i64 (oneV x y)) W)from fun W=>one_any x y W hxp hyp)
    have Hy:=Lib.hid hy
    obtain⟨q,hq⟩:∃q,oneV x y=q:=⟨_,rfl⟩
    have HQ:=Lib.hid hq
    rw[hq]at HX
    obtain⟨cs,hcs⟩:∃cs,pcs x=cs:=⟨_,rfl⟩
    obtain⟨cs',hcs'⟩:∃cs,pcs y=cs:=⟨_,rfl⟩
    rw[hcs]at HC HO HX
    rw[hcs']at HC' HO' HX
    clear hx hx1 hx2 hs hxp hy hy1 hy2 hs' hyp hq hcs hcs'
    go_wp2_with (first|refine wpList_load34at rfl rfl rfl HO.out.1 (HC.out _ hB) ?_|refine wpList_load34at rfl rfl rfl HO'.out.1 (HC'.out _ hB1) ?_|(refine wpList_alloc34 rfl rfl ?_)|(refine wpList_store34 rfl rfl rfl rfl (World.vb_new' _ _ _ rfl) (by rfl) HO.out ?_;intro w1 hn1 hg1 hz1;have hB1:=(hB.alloc hBz (.cells vz 39)).grown hg1 (by simp;omega) (fun k9 hk9=>by cases hk9;omega);rw[World.size_alloc]at hz1)|(refine wpList_store34 rfl rfl rfl rfl (World.vb_new' _ _ _ rfl) (by rfl) HO'.out ?_;intro w2 hn2 hg2 hz2;have hn1:=(hn1.alloc (.cells vz 39)).grown hg2 (by intro e9;injection e9 with e9;omega);have hB2:=(hB1.alloc (by omega) (.cells vz 39)).grown hg2 (by simp;omega) (fun k9 hk9=>by cases hk9;omega);rw[World.size_alloc]at hz2;(try rw[hz1]at hn2))|refine wpList_load34 rfl rfl rfl hn1 HO.out.1 ?_|refine wpList_load34 rfl rfl rfl hn2 HO'.out.1 ?_)
    refine(HX.out _).mono ?_
    rintro e3 w3 ⟨rfl,hB3⟩
    have hB4:=hB2.trans (hB3.mono (by omega))
    by_cases hq0:q=0
    ·have HE':Hid (∀i x y,i<K+1→l[i]? =some x→r[i]? =some y→oneV x y=0):=Lib.hid fun i x' y' hi h1 h2=>by
      by_cases e:i=K
      ·subst e
       rw[Hx.out]at h1
       rw[Hy.out]at h2
       injection h1 with h1
       injection h2 with h2
       rw[←h1,←h2,HQ.out,hq0]
      ·exact HE.out i x' y' (by omega) h1 h2
     subst hq0
     clear hB3 hn1 hn2 hg1 hg2
     go_wp2_with fail
     go_roundw
     case rel=>exact⟨K+1,by omega,by omega,by go_num,hB4,HE'⟩
     case measure=>simp[intOf];omega
    ·have HN:Hid (D=q):=Lib.hid (by rw[←HD.out,oneL_at HE.out Hx.out Hy.out (by rw[HQ.out];exact hq0),HQ.out])
     have f0:(q != 0)=true:=by simpa using hq0
     clear hB3 hn1 hn2 hg1 hg2 hq0
     go_wp2_with fail
     go_ret
     exact⟨by rw[HN.out];rfl,hB4⟩
   ·have hKI2:¬(K:Int)<(r.length:Int):=by omega
    have HN:Hid (D=1):=Lib.hid (by rw[←HD.out,oneL_end HE.out (by omega) (by omega) (.inr (by omega)),if_pos (by omega)])
    obtain⟨cs,hcs⟩:∃cs,pcs x=cs:=⟨_,rfl⟩
    rw[hcs]at HC HO
    clear hx hx1 hx2 hs hxp hcs
    go_wp2_with (first|refine wpList_load34at rfl rfl rfl HO.out.1 (HC.out _ hB) ?_|(refine wpList_alloc34 rfl rfl ?_)|(refine wpList_store34 rfl rfl rfl rfl (World.vb_new' _ _ _ rfl) (by rfl) HO.out ?_;intro w1 hn1 hg1 hz1;have hB1:=(hB.alloc hBz (.cells vz 39)).grown hg1 (by simp;omega) (fun k9 hk9=>by cases hk9;omega);rw[World.size_alloc]at hz1))
    go_ret
    exact⟨by rw[HN.out];rfl,hB1⟩
  ·have hKI:¬(K:Int)<(l.length:Int):=by omega
   by_cases hlt2:l.length<r.length
   ·have HN:Hid (D= -1):=Lib.hid (by rw[←HD.out,oneL_end HE.out hK hK2 (.inl (by omega)),if_neg (by omega),if_pos hlt2])
    have h2:(l.length:Int)<(r.length:Int):=by omega
    go_wp2_with fail
    go_ret
    exact⟨by rw[HN.out];rfl,hB⟩
   ·have HN:Hid (D=0):=Lib.hid (by rw[←HD.out,oneL_end HE.out hK hK2 (.inl (by omega)),if_neg (by omega),if_neg hlt2])
    have h2:¬(l.length:Int)<(r.length:Int):=by omega
    go_wp2_with fail
    go_ret
    exact⟨by rw[HN.out];rfl,hB⟩
end Go.Proofs.YtmhfioimgllgeaaGreatDoor
namespace Go.Proofs.YtmhfioimgllgeaaGreatDoor
open Go Go.RowKit Go.Shelf
def orL :List Int→Int
 | []=>0
 |x :: l=>if x=0 then orL l else x
theorem orL_hit {l:List Int} {K:Nat} {x:Int} (h:∀i y,i<K→l[i]? =some y→y=0) (hx:l[K]? =some x) (hne:x≠0):orL l=x:=by
 induction K generalizing l with
 |zero=>
  cases l with
  |nil=>cases hx
  |cons a l=>injection hx with hx;subst hx;rw[orL,if_neg hne]
 |succ K ih=>
  cases l with
  |nil=>cases hx
  |cons a l=>
   rw[orL,if_pos (h 0 a (by omega) rfl)]
   exact ih (fun i y hi hy=>h (i+1) y (by omega) (by simpa using hy)) (by simpa using hx)
theorem orL_miss {l:List Int} (h:∀(i:Nat) (y:Int),l[i]? =some y→y=0):orL l=0:=by
 induction l with
 |nil=>rfl
 |cons a l ih=>
  rw[orL,if_pos (h 0 a rfl)]
  exact ih fun i y hy=>h (i+1) y (by simpa using hy)
set_option maxRecDepth 100000 in
set_option maxHeartbeats 4000000 in
theorem or3_any (a b c:Int) (g:Nat) (w:World) (h:w.heap[g]? =some (.cells #[.int .i64 a,.int .i64 b,.int .i64 c] 3 (0,0))):
 Calls Tryz.prog 64 #[.slice (some ⟨g,0,none⟩) 3 3] w (Gives (.int .i64 (orL [a,b,c])) w):=by
 obtain⟨l,hl⟩:∃l,[a,b,c]=l:=⟨_,rfl⟩
 have hlen:l.length=3:=by rw[←hl];rfl
 have HC:=Lib.hid (show ∀K x,l[K]? =some x→w.cell? ⟨g,K,none⟩=some (.int .i64 x)from fun K x hx=>by
  rw[cell_of_row w g K _ _ _ h]
  rw[←hl]at hx
  match K,hx with
  |0,hx=>injection hx with hx;subst hx;rfl
  |1,hx=>injection hx with hx;subst hx;rfl
  |2,hx=>injection hx with hx;subst hx;rfl
  |K+3,hx=>simp at hx)
 rw[hl]
 clear hl h
 obtain⟨D,hD⟩:∃D,orL l=D:=⟨_,rfl⟩
 rw[hD]
 have HD:=Lib.hid hD
 clear hD
 go_enter Tryz.func64,Tryz.ntmps64
 go_wp2_with fail
 go_loop [8] (fun i=>∃K:Nat,K≤3∧i= .int .i64 (K:Int)∧Hid (∀i y,i<K→l[i]? =some y→y=0)) (fun i=>3-(intOf i).toNat)
 case atStart=>exact⟨0,Nat.zero_le _,rfl,Lib.hid fun i y h=>by omega⟩
 case round=>
  obtain⟨K,hK,rfl,HE⟩:=hrel
  by_cases hlt:K<3
  ·have hKI:(K:Int)<3:=by omega
   obtain⟨x,hx⟩:∃x,l[K]? =some x:=⟨_,List.getElem?_eq_getElem (by omega)⟩
   have hc:=HC.out K x hx
   have Hx:=Lib.hid hx
   clear hx
   by_cases hx0:x=0
   ·subst hx0
    have HE':Hid (∀i y,i<K+1→l[i]? =some y→y=0):=Lib.hid fun i y hi hy=>by
     by_cases e:i=K
     ·subst e
      rw[Hx.out]at hy
      injection hy with hy;exact hy.symm
     ·exact HE.out i y (by omega) hy
    go_wp2_with fail
    go_round
    case rel=>exact⟨K+1,by omega,by go_num,HE'⟩
    case measure=>simp[intOf];omega
   ·have HN:Hid (D=x):=Lib.hid (by rw[←HD.out];exact orL_hit HE.out Hx.out hx0)
    have f0:(x != 0)=true:=by simpa using hx0
    clear hx0
    go_wp2_with fail
    go_ret
    exact⟨by rw[HN.out];rfl,Below.refl _ _⟩
  ·obtain rfl:K=3:=by omega
   have HN:Hid (D=0):=Lib.hid (by
    rw[←HD.out]
    refine orL_miss fun i y hy=>HE.out i y ?_ hy
    have:=(List.getElem?_eq_some_iff.1 hy).1
    omega)
   go_wp2_with fail
   go_ret
   exact⟨by rw[HN.out];rfl,Below.refl _ _⟩
theorem rp_kind {w:World} {B n:Nat} {x:Vl} {C:Array Value} (h:Rp w B (n+1) x (.agg C)):C[0]? =some (.int .i64 x.k):=by
 obtain⟨L,Bs,Ps,e,_⟩:=h
 injection e with e
 rw[e];rfl
theorem ArrP.nice {x:Vl} {w:World} {B n:Nat} {v:Value} (h:ArrP x) (hx:Rp w B (n+1) x v):NiceV x:=by
 rcases h with h|⟨h5,h⟩
 ·exact .plain h
 ·have hr:=h
  rw[rightV,if_pos h5,Bool.and_eq_true,Bool.and_eq_true,List.all_eq_true]at h
  have e:x=arrV x.rows x.cols x.l:=by
   have hb:=h.2.1
   obtain⟨k,m,e,s,b,err,rows,cols,l,fn,bl,ps⟩:=x
   have h5':k=5:=h5
   subst h5'
   simp only[bareV,Bool.and_eq_true,Bool.or_eq_true,beq_iff_eq,Bool.not_eq_true',List.isEmpty_iff]at hb
   obtain⟨⟨⟨⟨⟨⟨h1,h2⟩,h3⟩,h4⟩,_⟩,_⟩,h7⟩:=hb
   have hs0:s.size=0→s=⟨#[]⟩:=fun h=>by
    obtain⟨⟨l⟩⟩:=s
    cases l with
    |nil=>rfl
    |cons a l=>exact absurd h (by simp[ByteArray.size])
   have a1:=h1.resolve_left (by decide)
   have a2:=hs0 ((h2.resolve_left (by decide)))
   have a3:=h3.resolve_left (by decide)
   have a4:=h4.resolve_left (by decide)
   have a7:=h7.resolve_left (by decide)
   simp[arrV,a1,a2,a3,a4,a7]
  rw[e]
  exact .arr h.2.2
set_option maxRecDepth 100000 in
set_option maxHeartbeats 4000000 in
/-- Two that are not both arrays. -/
theorem cmp_one (n:Nat) (x y:Vl) (v u:Value) (w:World) (hx:Rp w w.heap.size (n+2) x v) (hy:Rp w w.heap.size (n+2) y u) (px:ArrP x) (py:ArrP y) (hn:¬(x.k=5∧y.k=5)) (hT:Lib.Utf8Tabs 2 3 w):
 Calls Tryz.prog 27 #[v,u] w (Gives (.int .i64 (cmpV (n+2) x y)) w):=by
 have HRX:=Lib.hid (show ∀W,Below w.heap.size w W→w.heap.size≤W.heap.size→Calls Tryz.prog 19 #[v] W (Gives (.bool true) W)from fun W hW hz=>by
  have:=right27_any n x v W (hx.below hW hz) (px.nice hx) (tabs_below hT hW)
  rw[px.right]at this;exact this)
 have HRY:=Lib.hid (show ∀W,Below w.heap.size w W→w.heap.size≤W.heap.size→Calls Tryz.prog 19 #[u] W (Gives (.bool true) W)from fun W hW hz=>by
  have:=right27_any n y u W (hy.below hW hz) (py.nice hy) (tabs_below hT hW)
  rw[py.right]at this;exact this)
 have hcv:cmpV (n+2) x y=oneV x y:=by
  unfold cmpV
  rw[if_pos ⟨px.right _,py.right _⟩,if_neg hn]
 rw[hcv]
 have HO1:Hid (∀W,Calls Tryz.prog 63 #[v,u] W (Gives (.int .i64 (oneV x y)) W)):=Lib.hid fun W=>by
  by_cases hk:x.k=y.k
  ·rcases px with hp|⟨h5,_⟩
   ·rcases py with hq|⟨h5,_⟩
    ·rw[plain_cells hx hp,plain_cells hy hq]
     exact one_any x y W hp hq
    ·exact absurd ⟨hk.trans h5,h5⟩ hn
   ·exact absurd ⟨h5,hk.symm.trans h5⟩ hn
  ·obtain⟨C,rfl⟩:∃C,v= .agg C:=by obtain⟨_,_,_,e,_⟩:=hx;exact⟨_,e⟩
   obtain⟨C',rfl⟩:∃C,u= .agg C:=by obtain⟨_,_,_,e,_⟩:=hy;exact⟨_,e⟩
   rw[oneV_lex,if_neg hk]
   exact one_kinds C C' _ _ W (rp_kind hx) (rp_kind hy) hk
 obtain⟨C,rfl⟩:∃C,v= .agg C:=by obtain⟨_,_,_,e,_⟩:=hx;exact⟨_,e⟩
 obtain⟨C',rfl⟩:∃C,u= .agg C:=by obtain⟨_,_,_,e,_⟩:=hy;exact⟨_,e⟩
 have x0:=rp_kind hx
 have y0:=rp_kind hy
 have HO:=Lib.hid hx.one
 have HO':=Lib.hid hy.one
 generalize x.k=k at x0 hn
 generalize y.k=k' at y0 hn
 generalize oneV x y=D at HO1
 clear hcv hx hy px py hT
 have X0:=Lib.hid x0
 have Y0:=Lib.hid y0
 have Hn:=Lib.hid hn
 clear x0 y0 hn
 go_enter Tryz.func27,Tryz.ntmps27
 go_wp2_with (first|refine wpList_load34 rfl rfl rfl ((World.vb_new w C).alloc _) HO.out.1 ?_)
 obtain⟨W,hW⟩:∃W,W=(w.alloc (.cells C 39)).alloc (.cells C' 39):=⟨_,rfl⟩
 rw[←hW]
 have hvx:World.vb W w.heap.size C:=by rw[hW];exact(World.vb_new w C).alloc _
 have hvy:World.vb W (w.heap.size+1) C':=by rw[hW];exact World.vb_new' _ _ _ (by simp)
 have hB:Below w.heap.size w W:=by rw[hW];exact((Below.refl _ w).alloc (Nat.le_refl _) _).alloc (by simp) _
 clear hW
 refine(HRX.out _ hB hB.size).mono ?_
 rintro e2 w2 ⟨rfl,hB2⟩
 have hvx:=hvx.below hB2 hvx.lt
 have hvy:=hvy.below hB2 hvy.lt
 have hB:=hB.trans (hB2.mono hB.size)
 clear hB2
 go_wp2_with (first|refine wpList_load34g rfl rfl rfl hvy HO'.out.1 ?_)
 refine(HRY.out _ hB hB.size).mono ?_
 rintro e3 w3 ⟨rfl,hB3⟩
 have hvx:=hvx.below hB3 hvx.lt
 have hvy:=hvy.below hB3 hvy.lt
 have hB:=hB.trans (hB3.mono hB.size)
 clear hB3
 have c0:=hvx.cell X0.out
 have d0:=hvy.cell Y0.out
 by_cases h5:k=5
 ·have h5':¬k'=5:=fun e=>Hn.out ⟨h5,e⟩
  subst h5
  have f1:(k' != 5)=true:=by simpa using h5'
  clear h5'
  go_wp2_with (first|refine wpList_load34 rfl rfl rfl hvx HO.out.1 ?_|refine wpList_load34 rfl rfl rfl hvy HO'.out.1 ?_)
  refine(HO1.out _).mono ?_
  rintro e4 w4 ⟨rfl,hB4⟩
  have hB:=hB.trans (hB4.mono hB.size)
  clear hB4 hvx hvy c0 d0
  go_wp2_with fail
  go_ret
  exact⟨rfl,hB⟩
 ·have f1:(k != 5)=true:=by simpa using h5
  clear h5
  go_wp2_with (first|refine wpList_load34 rfl rfl rfl hvx HO.out.1 ?_|refine wpList_load34 rfl rfl rfl hvy HO'.out.1 ?_)
  refine(HO1.out _).mono ?_
  rintro e4 w4 ⟨rfl,hB4⟩
  have hB:=hB.trans (hB4.mono hB.size)
  clear hB4 hvx hvy c0 d0
  go_wp2_with fail
  go_ret
  exact⟨rfl,hB⟩
theorem cmp_or {r r' c c' d:Int}:orL [ordI r r',ordI c c',d]=if r≠r' then ordI r r' else if c≠c' then ordI c c' else d:=by
 rw[orL,orL,orL,orL]
 simp only[ordI_zero]
 by_cases h1:r=r'
 ·by_cases h2:c=c'
  ·by_cases h3:d=0
   ·simp[h1,h2,h3]
   ·simp[h1,h2,h3]
  ·simp[h1,h2]
 ·simp[h1]
set_option maxRecDepth 100000 in
set_option maxHeartbeats 8000000 in
/-- Two arrays. -/
theorem cmp_arr (n:Nat) (r c r' c':Int) (l l':List Vl) (v u:Value) (w:World) (hx:Rp w w.heap.size (n+2) (arrV r c l) v) (hy:Rp w w.heap.size (n+2) (arrV r' c' l') u)
 (px:rightV (n+2) (arrV r c l)=true) (py:rightV (n+2) (arrV r' c' l')=true) (hT:Lib.Utf8Tabs 2 3 w):
 Calls Tryz.prog 27 #[v,u] w (Gives (.int .i64 (cmpV (n+2) (arrV r c l) (arrV r' c' l'))) w):=by
 have ax:=(right_arr.1 px).2
 have ay:=(right_arr.1 py).2
 have HRX:=Lib.hid (show ∀W,Below w.heap.size w W→w.heap.size≤W.heap.size→Calls Tryz.prog 19 #[v] W (Gives (.bool true) W)from fun W hW hz=>by
  have:=right27_any n _ v W (hx.below hW hz) (.arr ax) (tabs_below hT hW)
  rw[px]at this;exact this)
 have HRY:=Lib.hid (show ∀W,Below w.heap.size w W→w.heap.size≤W.heap.size→Calls Tryz.prog 19 #[u] W (Gives (.bool true) W)from fun W hW hz=>by
  have:=right27_any n _ u W (hy.below hW hz) (.arr ay) (tabs_below hT hW)
  rw[py]at this;exact this)
 have hcv:cmpV (n+2) (arrV r c l) (arrV r' c' l')=orL [ordI r r',ordI c c',oneL l l']:=by
  unfold cmpV
  rw[if_pos ⟨px,py⟩,if_pos ⟨rfl,rfl⟩,cmp_or]
  rfl
 rw[hcv]
 obtain⟨p,k,rfl,hl,hok⟩:=arr_cells hx
 obtain⟨p',k',rfl,hl',hok'⟩:=arr_cells hy
 have HCF:=Lib.hid (show ∀W,Below w.heap.size w W→w.heap.size≤W.heap.size→Calls Tryz.prog 66 #[.slice p l.length k,.slice p' l'.length k',.func (.func 63) #[] #[]] W (Gives (.int .i64 (oneL l l')) W)from fun W hW hz=>
  cmpfunc_any n l l' _ _ W ax ay (hl.imp (fun p9 hp9=>hW.cell hp9) hz (fun y9 v9 h9=>h9.below hW hz)) (hl'.imp (fun p9 hp9=>hW.cell hp9) hz (fun y9 v9 h9=>h9.below hW hz)))
 obtain⟨C,hC⟩:∃C,vcs (arrV r c l) (.slice p l.length k) nilS nilS=C:=⟨_,rfl⟩
 obtain⟨C',hC'⟩:∃C,vcs (arrV r' c' l') (.slice p' l'.length k') nilS nilS=C:=⟨_,rfl⟩
 have HO:Hid (OneC C):=Lib.hid (by rw[←hC];exact vcs_one _ _ _ _ _ _ _ _ _ _)
 have HO':Hid (OneC C'):=Lib.hid (by rw[←hC'];exact vcs_one _ _ _ _ _ _ _ _ _ _)
 have x0:C[0]? =some (.int .i64 5):=by rw[←hC];rfl
 have x6:C[6]? =some (.int .i64 r):=by rw[←hC];rfl
 have x7:C[7]? =some (.int .i64 c):=by rw[←hC];rfl
 have x8:C[8]? =some (.slice p l.length k):=by rw[←hC];rfl
 have y0:C'[0]? =some (.int .i64 5):=by rw[←hC'];rfl
 have y6:C'[6]? =some (.int .i64 r'):=by rw[←hC'];rfl
 have y7:C'[7]? =some (.int .i64 c'):=by rw[←hC'];rfl
 have y8:C'[8]? =some (.slice p' l'.length k'):=by rw[←hC'];rfl
 have XS:=Lib.hid (And.intro (And.intro x0 (And.intro x6 (And.intro x7 x8))) (And.intro y0 (And.intro y6 (And.intro y7 y8))))
 rw[hC]at HRX⊢
 rw[hC']at HRY⊢
 generalize l.length=m at*
 generalize l'.length=m' at*
 generalize oneL l l'=D at HCF
 clear x0 x6 x7 x8 y0 y6 y7 y8 hC hC' hx hy px py hT hcv hl hl' hok hok' ax ay
 go_enter Tryz.func27,Tryz.ntmps27
 go_wp2_with (first|refine wpList_load34 rfl rfl rfl ((World.vb_new w C).alloc _) HO.out.1 ?_)
 obtain⟨W,hW⟩:∃W,W=(w.alloc (.cells C 39)).alloc (.cells C' 39):=⟨_,rfl⟩
 rw[←hW]
 have hvx:World.vb W w.heap.size C:=by rw[hW];exact(World.vb_new w C).alloc _
 have hvy:World.vb W (w.heap.size+1) C':=by rw[hW];exact World.vb_new' _ _ _ (by simp)
 have hB:Below w.heap.size w W:=by rw[hW];exact((Below.refl _ w).alloc (Nat.le_refl _) _).alloc (by simp) _
 clear hW
 refine(HRX.out _ hB hB.size).mono ?_
 rintro e2 w2 ⟨rfl,hB2⟩
 have hvx:=hvx.below hB2 hvx.lt
 have hvy:=hvy.below hB2 hvy.lt
 have hB:=hB.trans (hB2.mono hB.size)
 clear hB2
 go_wp2_with (first|refine wpList_load34g rfl rfl rfl hvy HO'.out.1 ?_)
 refine(HRY.out _ hB hB.size).mono ?_
 rintro e3 w3 ⟨rfl,hB3⟩
 have hvx:=hvx.below hB3 hvx.lt
 have hvy:=hvy.below hB3 hvy.lt
 have hB:=hB.trans (hB3.mono hB.size)
 clear hB3
 have c0:=hvx.cell XS.out.1.1
 have d0:=hvy.cell XS.out.2.1
 go_wp2_with fail
 clear c0 d0
 have hvx:=hvx.drew
 have hvy:=hvy.drew
 have hB:=hB.drew
 obtain⟨⟨x0,x6,x7,x8⟩,y0,y6,y7,y8⟩:=XS.out
 have c6:=hvx.cell x6
 have c7:=hvx.cell x7
 have c8:=hvx.cell x8
 have d6:=hvy.cell y6
 have d7:=hvy.cell y7
 have d8:=hvy.cell y8
 clear x0 y0
 go_region_held3 (fun w'=>w'.cell? ⟨w.heap.size,6,none⟩=some (.int .i64 r)∧w'.cell? ⟨w.heap.size,7,none⟩=some (.int .i64 c)∧w'.cell? ⟨w.heap.size,8,none⟩=some (.slice p m k)∧w'.cell? ⟨w.heap.size+1,6,none⟩=some (.int .i64 r')∧w'.cell? ⟨w.heap.size+1,7,none⟩=some (.int .i64 c')∧w'.cell? ⟨w.heap.size+1,8,none⟩=some (.slice p' m' k'))
  (first|exact⟨c6,c7,c8,d6,d7,d8⟩|exact⟨cell_alloc' c6,cell_alloc' c7,cell_alloc' c8,cell_alloc' d6,cell_alloc' d7,cell_alloc' d8⟩|fail)
  (first|(go_at_call 65;refine(cmp_int _ _ _).mono ?_;rintro e2 w2 ⟨rfl,hB2⟩;have hvx:=hvx.below hB2 hvx.lt;have hvy:=hvy.below hB2 hvy.lt;have hB:=hB.trans (hB2.mono hB.size);have c6:=hvx.cell x6;have c7:=hvx.cell x7;have c8:=hvx.cell x8;have d6:=hvy.cell y6;have d7:=hvy.cell y7;have d8:=hvy.cell y8)|(go_at_call 66;refine(HCF.out _ hB hB.size).mono ?_;rintro e2 w2 ⟨rfl,hB2⟩;have hvx:=hvx.below hB2 hvx.lt;have hvy:=hvy.below hB2 hvy.lt;have hB:=hB.trans (hB2.mono hB.size);have c6:=hvx.cell x6;have c7:=hvx.cell x7;have c8:=hvx.cell x8;have d6:=hvy.cell y6;have d7:=hvy.cell y7;have d8:=hvy.cell y8)|(go_at_call 64;refine(or3_any _ _ _ _ _ (heap_alloc_new _ _)).mono ?_;rintro e2 w2 ⟨rfl,hB2⟩;have hvx:=(hvx.alloc _).below hB2 (hvx.alloc _).lt;have hvy:=(hvy.alloc _).below hB2 (hvy.alloc _).lt;have hB:=(hB.alloc hB.size _).trans (hB2.mono (by have:=hB.size;simp;omega));have c6:=hvx.cell x6;have c7:=hvx.cell x7;have c8:=hvx.cell x8;have d6:=hvy.cell y6;have d7:=hvy.cell y7;have d8:=hvy.cell y8)|fail)
 all_goals
  go_wp2_with fail
  go_ret
  exact⟨rfl,hB⟩
/-- val.Compare. -/
theorem cmp28_any (n:Nat) (x y:Vl) (v u:Value) (w:World) (hx:Rp w w.heap.size (n+2) x v) (hy:Rp w w.heap.size (n+2) y u) (px:ArrP x) (py:ArrP y) (hT:Lib.Utf8Tabs 2 3 w):
 Calls Tryz.prog 27 #[v,u] w (Gives (.int .i64 (cmpV (n+2) x y)) w):=by
 by_cases hn:x.k=5∧y.k=5
 ·have rx:=px.right (n+1)
  have ry:=py.right (n+1)
  have nx:=px.nice hx
  have ny:=py.nice hy
  cases nx with
  |plain h=>exact absurd hn.1 (plain_kind h).1
  |arr h=>
   cases ny with
   |plain h=>exact absurd hn.2 (plain_kind h).1
   |arr h'=>exact cmp_arr n _ _ _ _ _ _ v u w hx hy rx ry hT
 ·exact cmp_one n x y v u w hx hy px py hn hT
end Go.Proofs.YtmhfioimgllgeaaGreatDoor
