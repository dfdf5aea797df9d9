/- val.one at plain values, and at values of two kinds; slices.CompareFunc; cmp.Or; val.Compare. -/
import Derived.Test.YtkhohjdakcchdaaGreatDoorBl
import Derived.Test.YtkhohjdakcchdaaGreatDoorFld
import Derived.Test.YtkhohjdakcchdaaGreatDoorBk
namespace Go.Proofs.YtkhohjdakcchdaaGreatDoor
open Go Go.RowKit Go.Shelf
theorem cmp_int (x y:Int) (w:World):Calls Tryz.prog 73 #[.int .i64 x,.int .i64 y] w (Gives (.int .i64 (ordI x y)) w):=by
 refine(Tryz.cmp_Compare_int x y w).mono ?_
 rintro e w' ⟨rfl,rfl⟩
 exact⟨rfl,Below.refl _ _⟩
theorem cmp_str (a b:ByteArray) (w:World):Calls Tryz.prog 117 #[.string a,.string b] w (Gives (.int .i64 (Lib.compareBytes a.data.toList b.data.toList)) w):=by
 refine(Tryz.strings_Compare a b w).mono ?_
 rintro e w' ⟨rfl,rfl⟩
 exact⟨rfl,Below.refl _ _⟩
set_option maxRecDepth 100000 in
set_option maxHeartbeats 4000000 in
/-- Of two kinds. -/
theorem one_kinds (C C':Array Value) (k k':Int) (w:World) (x0:C[0]? =some (.int .i64 k)) (y0:C'[0]? =some (.int .i64 k')) (hne:k≠k'):
 Calls Tryz.prog 71 #[.agg C,.agg C'] w (Gives (.int .i64 (ordI k k')) w):=by
 have f0:(k != k')=true:=by simpa using hne
 clear hne
 go_enter Tryz.func71,Tryz.ntmps71
 go_wp2_with fail
 refine(cmp_int k k' _).mono ?_
 rintro e2 w2 ⟨rfl,hB2⟩
 have hB:=(((Below.refl _ w).alloc (Nat.le_refl _) (.cells C 34)).alloc (by simp) (.cells C' 34)).trans (hB2.mono (by simp;omega))
 go_wp2_with fail
 go_ret
 exact⟨rfl,hB⟩
set_option maxRecDepth 100000 in
set_option maxHeartbeats 4000000 in
theorem one_0 (w:World):Calls Tryz.prog 71 #[.agg (pcs {}),.agg (pcs {})] w (Gives (.int .i64 0) w):=by
 obtain⟨C,hC⟩:∃C,pcs {}=C:=⟨_,rfl⟩
 have x0:C[0]? =some (.int .i64 0):=by rw[←hC];rfl
 rw[hC]
 clear hC
 go_enter Tryz.func71,Tryz.ntmps71
 go_wp2_with fail
 go_ret
 exact⟨rfl,((Below.refl _ w).alloc (Nat.le_refl _) _).alloc (by simp) _⟩
set_option maxRecDepth 100000 in
set_option maxHeartbeats 4000000 in
theorem one_1 (M E M' E':Int) (w:World) (h0: -9223372036854775808≤M) (h1:M≤9223372036854775807) (h0': -9223372036854775808≤M') (h1':M'≤9223372036854775807):
 Calls Tryz.prog 71 #[.agg (pcs (numV (M,E))),.agg (pcs (numV (M',E')))] w (Gives (.int .i64 (cmpD M E M' E')) w):=by
 have HT:=Lib.hid (cmp_any M E M' E' · h0 h1 h0' h1')
 obtain⟨C,hC⟩:∃C,pcs (numV (M,E))=C:=⟨_,rfl⟩
 obtain⟨C',hC'⟩:∃C',pcs (numV (M',E'))=C':=⟨_,rfl⟩
 have x0:C[0]? =some (.int .i64 1):=by rw[←hC];rfl
 have x1:C[1]? =some (.int .i64 M):=by rw[←hC];rfl
 have x2:C[2]? =some (.int .i64 E):=by rw[←hC];rfl
 have y0:C'[0]? =some (.int .i64 1):=by rw[←hC'];rfl
 have y1:C'[1]? =some (.int .i64 M'):=by rw[←hC'];rfl
 have y2:C'[2]? =some (.int .i64 E'):=by rw[←hC'];rfl
 rw[hC,hC']
 clear hC hC' h0 h1 h0' h1'
 go_enter Tryz.func71,Tryz.ntmps71
 go_wp2_with fail
 refine(HT.out _).mono ?_
 rintro e2 w2 ⟨rfl,hB2⟩
 have hB:=(((Below.refl _ w).alloc (Nat.le_refl _) (.cells C 34)).alloc (by simp) (.cells C' 34)).trans (hB2.mono (by simp;omega))
 go_wp2_with fail
 go_ret
 exact⟨rfl,hB⟩
set_option maxRecDepth 100000 in
set_option maxHeartbeats 4000000 in
theorem one_2 (s s':ByteArray) (w:World) (hs:s.size≤4294967280) (hs':s'.size≤4294967280):
 Calls Tryz.prog 71 #[.agg (pcs (txtV s)),.agg (pcs (txtV s'))] w (Gives (.int .i64 (Lib.compareBytes (lowL s.data.toList) (lowL s'.data.toList))) w):=by
 have HF:=Lib.hid (show ∀t,(t=s∨t=s')→∀W,Calls Tryz.prog 48 #[.string t] W (Gives (.string (foldS t)) W)from fun t ht W=>fold_any t W (by rcases ht with e|e<;>subst e<;>assumption))
 have HR:Hid (Lib.compareBytes (lowL s.data.toList) (lowL s'.data.toList)=Lib.compareBytes (foldS s).data.toList (foldS s').data.toList):=Lib.hid rfl
 obtain⟨C,hC⟩:∃C,pcs (txtV s)=C:=⟨_,rfl⟩
 obtain⟨C',hC'⟩:∃C',pcs (txtV s')=C':=⟨_,rfl⟩
 have x0:C[0]? =some (.int .i64 2):=by rw[←hC];rfl
 have x3:C[3]? =some (.string s):=by rw[←hC];rfl
 have y0:C'[0]? =some (.int .i64 2):=by rw[←hC'];rfl
 have y3:C'[3]? =some (.string s'):=by rw[←hC'];rfl
 rw[hC,hC',HR.out]
 clear hC hC' hs hs' HR
 go_enter Tryz.func71,Tryz.ntmps71
 go_wp2_with fail
 obtain⟨W,hW⟩:∃W,W=(w.alloc (.cells C 34)).alloc (.cells C' 34):=⟨_,rfl⟩
 rw[←hW]
 have hvx:World.vb W w.heap.size C:=by rw[hW];exact(World.vb_new w C).alloc _
 have hvy:World.vb W (w.heap.size+1) C':=by rw[hW];exact World.vb_new' _ _ _ (by simp)
 have hB:Below w.heap.size w W:=by rw[hW];exact((Below.refl _ w).alloc (Nat.le_refl _) _).alloc (by simp) _
 clear hW
 have hvx:=hvx.drew
 have hvy:=hvy.drew
 have hB:=hB.drew
 have c1:=hvx.cell x3
 have c2:=hvy.cell y3
 go_region_held3 (fun w'=>w'.cell? ⟨w.heap.size,3,none⟩=some (.string s)∧w'.cell? ⟨w.heap.size+1,3,none⟩=some (.string s'))
  (first|exact⟨c1,c2⟩|fail)
  (first|(go_at_call 48;refine(HF.out _ ?_ _).mono ?_;(first|exact .inl rfl|exact .inr rfl);rintro e2 w2 ⟨rfl,hB2⟩;have hvx:=hvx.below hB2 hvx.lt;have hvy:=hvy.below hB2 hvy.lt;have hB:=hB.trans (hB2.mono hB.size);have c1:=hvx.cell x3;have c2:=hvy.cell y3)|(go_at_call 117;refine(cmp_str _ _ _).mono ?_;rintro e2 w2 ⟨rfl,hB2⟩;have hvx:=hvx.below hB2 hvx.lt;have hvy:=hvy.below hB2 hvy.lt;have hB:=hB.trans (hB2.mono hB.size);have c1:=hvx.cell x3;have c2:=hvy.cell y3)|fail)
 all_goals
  go_wp2_with fail
  go_ret
  exact⟨rfl,hB⟩
set_option maxRecDepth 100000 in
set_option maxHeartbeats 4000000 in
theorem one_3 (b b':Bool) (w:World):Calls Tryz.prog 71 #[.agg (pcs (trV b)),.agg (pcs (trV b'))] w (Gives (.int .i64 (ordI (truI b) (truI b'))) w):=by
 obtain⟨C,hC⟩:∃C,pcs (trV b)=C:=⟨_,rfl⟩
 obtain⟨C',hC'⟩:∃C',pcs (trV b')=C':=⟨_,rfl⟩
 have x0:C[0]? =some (.int .i64 3):=by rw[←hC];rfl
 have x4:C[4]? =some (.bool b):=by rw[←hC];rfl
 have y0:C'[0]? =some (.int .i64 3):=by rw[←hC'];rfl
 have y4:C'[4]? =some (.bool b'):=by rw[←hC'];rfl
 rw[hC,hC']
 clear hC hC'
 cases b<;>cases b'
 all_goals
  go_enter Tryz.func71,Tryz.ntmps71
  go_wp2_with fail
  go_ret
  exact⟨rfl,((Below.refl _ w).alloc (Nat.le_refl _) _).alloc (by simp) _⟩
set_option maxRecDepth 100000 in
set_option maxHeartbeats 4000000 in
theorem one_4 (n n':Int) (w:World):Calls Tryz.prog 71 #[.agg (pcs (errV n)),.agg (pcs (errV n'))] w (Gives (.int .i64 (ordI n n')) w):=by
 obtain⟨C,hC⟩:∃C,pcs (errV n)=C:=⟨_,rfl⟩
 obtain⟨C',hC'⟩:∃C',pcs (errV n')=C':=⟨_,rfl⟩
 have x0:C[0]? =some (.int .i64 4):=by rw[←hC];rfl
 have x5:C[5]? =some (.int .i64 n):=by rw[←hC];rfl
 have y0:C'[0]? =some (.int .i64 4):=by rw[←hC'];rfl
 have y5:C'[5]? =some (.int .i64 n'):=by rw[←hC'];rfl
 rw[hC,hC']
 clear hC hC'
 go_enter Tryz.func71,Tryz.ntmps71
 go_wp2_with fail
 refine(cmp_int n n' _).mono ?_
 rintro e2 w2 ⟨rfl,hB2⟩
 have hB:=(((Below.refl _ w).alloc (Nat.le_refl _) (.cells C 34)).alloc (by simp) (.cells C' 34)).trans (hB2.mono (by simp;omega))
 go_wp2_with fail
 go_ret
 exact⟨rfl,hB⟩
theorem txt_small {s:ByteArray} (h:txtOk s=true):s.size≤200:=by
 unfold txtOk at h
 simp at h
 exact h.1
/-- Of two plain ones. -/
theorem one_any (x y:Vl) (w:World) (hx:plainV x=true) (hy:plainV y=true):Calls Tryz.prog 71 #[.agg (pcs x),.agg (pcs y)] w (Gives (.int .i64 (oneV x y)) w):=by
 by_cases hk:x.k=y.k
 ·rw[oneV_lex,if_pos hk]
  unfold kindV
  rcases plain_cases hx with e|⟨p,e,hr⟩|⟨s,e,hs⟩|⟨b,e⟩|⟨n,e,_⟩<;>rcases plain_cases hy with e'|⟨p',e',hr'⟩|⟨s',e',hs'⟩|⟨b',e'⟩|⟨n',e',_⟩<;>subst e<;>subst e'<;>first|(cases hk;done)|skip
  ·exact one_0 w
  ·unfold RightP at hr hr'
   exact one_1 p.1 p.2 p'.1 p'.2 w (by omega) (by omega) (by omega) (by omega)
  ·have h1:=txt_small hs
   have h2:=txt_small hs'
   exact one_2 s s' w (by omega) (by omega)
  ·exact one_3 b b' w
  ·exact one_4 n n' w
 ·rw[oneV_lex,if_neg hk]
  exact one_kinds _ _ _ _ w rfl rfl hk
theorem enters71 :∀args w,(callFunc 71 args).run Tryz.prog w= .ok (.enter 71 args) w:=enters_of Tryz.func71 (by kernel_rfl) rfl
theorem oneL_drop {l r:List Vl} {K:Nat} (h:∀i x y,i<K→l[i]? =some x→r[i]? =some y→oneV x y=0) (hl:K≤l.length) (hr:K≤r.length):oneL l r=oneL (l.drop K) (r.drop K):=by
 induction K generalizing l r with
 |zero=>simp
 |succ K ih=>
  cases l with
  |nil=>simp at hl
  |cons a l=>
   cases r with
   |nil=>simp at hr
   |cons b r=>
    rw[oneL,if_pos (h 0 a b (by omega) rfl rfl),List.drop_succ_cons,List.drop_succ_cons]
    exact ih (fun i x y hi hx hy=>h (i+1) x y (by omega) (by simpa using hx) (by simpa using hy)) (by simpa using hl) (by simpa using hr)
theorem oneL_at {l r:List Vl} {K:Nat} {x y:Vl} (h:∀i x y,i<K→l[i]? =some x→r[i]? =some y→oneV x y=0) (hx:l[K]? =some x) (hy:r[K]? =some y) (hne:oneV x y≠0):oneL l r=oneV x y:=by
 have h1:=List.getElem?_eq_some_iff.1 hx
 have h2:=List.getElem?_eq_some_iff.1 hy
 obtain⟨h1,e1⟩:=h1
 obtain⟨h2,e2⟩:=h2
 rw[oneL_drop h (by omega) (by omega),List.drop_eq_getElem_cons h1,List.drop_eq_getElem_cons h2,e1,e2,oneL,if_neg hne]
theorem oneL_end {l r:List Vl} {K:Nat} (h:∀i x y,i<K→l[i]? =some x→r[i]? =some y→oneV x y=0) (hl:K≤l.length) (hr:K≤r.length) (he:K=l.length∨K=r.length):
 oneL l r=if r.length<l.length then 1 else if l.length<r.length then -1 else 0:=by
 rw[oneL_drop h hl hr]
 rcases he with e|e<;>subst e
 ·rw[List.drop_length]
  cases hd:r.drop l.length with
  |nil=>
   have:(r.drop l.length).length=0:=by rw[hd];rfl
   rw[List.length_drop]at this
   rw[oneL,if_neg (by omega),if_neg (by omega)]
  |cons b t=>
   have:(r.drop l.length).length=t.length+1:=by rw[hd];rfl
   rw[List.length_drop]at this
   rw[oneL,if_neg (by omega),if_pos (by omega)]
 ·rw[List.drop_length]
  cases hd:l.drop r.length with
  |nil=>
   have:(l.drop r.length).length=0:=by rw[hd];rfl
   rw[List.length_drop]at this
   rw[oneL,if_neg (by omega),if_neg (by omega)]
  |cons b t=>
   have:(l.drop r.length).length=t.length+1:=by rw[hd];rfl
   rw[List.length_drop]at this
   rw[oneL,if_pos (by omega)]
set_option maxRecDepth 100000 in
set_option maxHeartbeats 4000000 in
theorem cmpfunc_any (n:Nat) (l r:List Vl) (L R:Value) (w:World) (hpl:∀x∈l,plainV x=true) (hpr:∀x∈r,plainV x=true)
 (hl:VsAt (Rp w w.heap.size (n+1)) w w.heap.size L l) (hr:VsAt (Rp w w.heap.size (n+1)) w w.heap.size R r):
 Calls Tryz.prog 74 #[L,R,.func (.func 71) #[] #[]] w (Gives (.int .i64 (oneL l r)) w):=by
 obtain⟨p,c,rfl,l1,l2,l3,_,HL⟩:=hl
 obtain⟨p',c',rfl,r1,r2,r3,_,HR⟩:=hr
 have HLL:=Lib.hid HL
 have HRR:=Lib.hid HR
 have HPL:=Lib.hid hpl
 have HPR:=Lib.hid hpr
 clear HL HR hpl hpr
 unfold maxLen at l2 r2
 have e71:=enters71
 obtain⟨D,hD⟩:∃D,oneL l r=D:=⟨_,rfl⟩
 rw[hD]
 have HD:=Lib.hid hD
 clear hD
 go_enter Tryz.func74,Tryz.ntmps74
 go_wp2_with fail
 go_loopw [13] (fun i wr=>∃K:Nat,K≤l.length∧K≤r.length∧i= .int .i64 (K:Int)∧Below w.heap.size w wr∧Hid (∀i x y,i<K→l[i]? =some x→r[i]? =some y→oneV x y=0)) (fun i _=>l.length-(intOf i).toNat)
 case atStart=>exact⟨0,Nat.zero_le _,Nat.zero_le _,rfl,Below.refl _ _,Lib.hid fun i x y h=>by omega⟩
 case round=>
  obtain⟨K,hK,hK2,rfl,hB,HE⟩:=hrel
  by_cases hlt:K<l.length
  ·have hKI:(K:Int)<(l.length:Int):=by omega
   obtain⟨x,hx⟩:∃x,l[K]? =some x:=⟨_,List.getElem?_eq_getElem hlt⟩
   obtain⟨g,off,cs,rfl,hg,hs,hx1,hx2⟩:=HLL.out K x hx
   have hxp:=HPL.out x (List.mem_of_getElem? hx)
   have hcs:=plain_cells hx1 hxp
   injection hcs with hcs
   subst hcs
   have HC:=Lib.hid (show ∀W,Below w.heap.size w W→∀j u,(pcs x)[j]? =some u→W.cell? ⟨g,off+K*12+j,none⟩=some u from fun W hW j u hj=>(hW.cell (p:=⟨g,_,none⟩) hg).trans (hx2 j u hj))
   have HO:=Lib.hid (pcs_one x)
   have hBz:=hB.size
   have Hx:=Lib.hid hx
   by_cases hlt2:K<r.length
   ·have hKI2:(K:Int)<(r.length:Int):=by omega
    obtain⟨y,hy⟩:∃y,r[K]? =some y:=⟨_,List.getElem?_eq_getElem hlt2⟩
    obtain⟨g',off',cs',rfl,hg',hs',hy1,hy2⟩:=HRR.out K y hy
    have hyp:=HPR.out y (List.mem_of_getElem? hy)
    have hcs':=plain_cells hy1 hyp
    injection hcs' with hcs'
    subst hcs'
    have HC':=Lib.hid (show ∀W,Below w.heap.size w W→∀j u,(pcs y)[j]? =some u→W.cell? ⟨g',off'+K*12+j,none⟩=some u from fun W hW j u hj=>(hW.cell (p:=⟨g',_,none⟩) hg').trans (hy2 j u hj))
    have HO':=Lib.hid (pcs_one y)
    have HX:=Lib.hid (show ∀W,Calls Tryz.prog 71 #[.agg (pcs x),.agg (pcs y)] W (Gives (.int .i64 (oneV x y)) W)from fun W=>one_any x y W hxp hyp)
    have Hy:=Lib.hid hy
    obtain⟨q,hq⟩:∃q,oneV x y=q:=⟨_,rfl⟩
    have HQ:=Lib.hid hq
    rw[hq]at HX
    obtain⟨cs,hcs⟩:∃cs,pcs x=cs:=⟨_,rfl⟩
    obtain⟨cs',hcs'⟩:∃cs,pcs y=cs:=⟨_,rfl⟩
    rw[hcs]at HC HO HX
    rw[hcs']at HC' HO' HX
    clear hx hx1 hx2 hs hxp hy hy1 hy2 hs' hyp hq hcs hcs'
    go_wp2_with (first|refine wpList_load34at rfl rfl rfl HO.out.1 (HC.out _ hB) ?_|refine wpList_load34at rfl rfl rfl HO'.out.1 (HC'.out _ hB1) ?_|(refine wpList_alloc34 rfl rfl ?_)|(refine wpList_store34 rfl rfl rfl rfl (World.vb_new' _ _ _ rfl) (by rfl) HO.out ?_;intro w1 hn1 hg1 hz1;have hB1:=(hB.alloc hBz (.cells vz 34)).grown hg1 (by simp;omega) (fun k9 hk9=>by cases hk9;omega);rw[World.size_alloc]at hz1)|(refine wpList_store34 rfl rfl rfl rfl (World.vb_new' _ _ _ rfl) (by rfl) HO'.out ?_;intro w2 hn2 hg2 hz2;have hn1:=(hn1.alloc (.cells vz 34)).grown hg2 (by intro e9;injection e9 with e9;omega);have hB2:=(hB1.alloc (by omega) (.cells vz 34)).grown hg2 (by simp;omega) (fun k9 hk9=>by cases hk9;omega);rw[World.size_alloc]at hz2;(try rw[hz1]at hn2))|refine wpList_load34 rfl rfl rfl hn1 HO.out.1 ?_|refine wpList_load34 rfl rfl rfl hn2 HO'.out.1 ?_)
    refine(HX.out _).mono ?_
    rintro e3 w3 ⟨rfl,hB3⟩
    have hB4:=hB2.trans (hB3.mono (by omega))
    by_cases hq0:q=0
    ·have HE':Hid (∀i x y,i<K+1→l[i]? =some x→r[i]? =some y→oneV x y=0):=Lib.hid fun i x' y' hi h1 h2=>by
      by_cases e:i=K
      ·subst e
       rw[Hx.out]at h1
       rw[Hy.out]at h2
       injection h1 with h1
       injection h2 with h2
       rw[←h1,←h2,HQ.out,hq0]
      ·exact HE.out i x' y' (by omega) h1 h2
     subst hq0
     clear hB3 hn1 hn2 hg1 hg2
     go_wp2_with fail
     go_roundw
     case rel=>exact⟨K+1,by omega,by omega,by go_num,hB4,HE'⟩
     case measure=>simp[intOf];omega
    ·have HN:Hid (D=q):=Lib.hid (by rw[←HD.out,oneL_at HE.out Hx.out Hy.out (by rw[HQ.out];exact hq0),HQ.out])
     have f0:(q != 0)=true:=by simpa using hq0
     clear hB3 hn1 hn2 hg1 hg2 hq0
     go_wp2_with fail
     go_ret
     exact⟨by rw[HN.out];rfl,hB4⟩
   ·have hKI2:¬(K:Int)<(r.length:Int):=by omega
    have HN:Hid (D=1):=Lib.hid (by rw[←HD.out,oneL_end HE.out (by omega) (by omega) (.inr (by omega)),if_pos (by omega)])
    obtain⟨cs,hcs⟩:∃cs,pcs x=cs:=⟨_,rfl⟩
    rw[hcs]at HC HO
    clear hx hx1 hx2 hs hxp hcs
    go_wp2_with (first|refine wpList_load34at rfl rfl rfl HO.out.1 (HC.out _ hB) ?_|(refine wpList_alloc34 rfl rfl ?_)|(refine wpList_store34 rfl rfl rfl rfl (World.vb_new' _ _ _ rfl) (by rfl) HO.out ?_;intro w1 hn1 hg1 hz1;have hB1:=(hB.alloc hBz (.cells vz 34)).grown hg1 (by simp;omega) (fun k9 hk9=>by cases hk9;omega);rw[World.size_alloc]at hz1))
    go_ret
    exact⟨by rw[HN.out];rfl,hB1⟩
  ·have hKI:¬(K:Int)<(l.length:Int):=by omega
   by_cases hlt2:l.length<r.length
   ·have HN:Hid (D= -1):=Lib.hid (by rw[←HD.out,oneL_end HE.out hK hK2 (.inl (by omega)),if_neg (by omega),if_pos hlt2])
    have h2:(l.length:Int)<(r.length:Int):=by omega
    go_wp2_with fail
    go_ret
    exact⟨by rw[HN.out];rfl,hB⟩
   ·have HN:Hid (D=0):=Lib.hid (by rw[←HD.out,oneL_end HE.out hK hK2 (.inl (by omega)),if_neg (by omega),if_neg hlt2])
    have h2:¬(l.length:Int)<(r.length:Int):=by omega
    go_wp2_with fail
    go_ret
    exact⟨by rw[HN.out];rfl,hB⟩
end Go.Proofs.YtkhohjdakcchdaaGreatDoor
