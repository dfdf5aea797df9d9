/- cmp.Or of three; val.Compare at values that are right, and no functions. -/
import Derived.Test.YtkhohjdakcchdaaGreatDoorOne
namespace Go.Proofs.YtkhohjdakcchdaaGreatDoor
open Go Go.RowKit Go.Shelf
def orL :List Int→Int
 | []=>0
 |x :: l=>if x=0 then orL l else x
theorem orL_hit {l:List Int} {K:Nat} {x:Int} (h:∀i y,i<K→l[i]? =some y→y=0) (hx:l[K]? =some x) (hne:x≠0):orL l=x:=by
 induction K generalizing l with
 |zero=>
  cases l with
  |nil=>cases hx
  |cons a l=>injection hx with hx;subst hx;rw[orL,if_neg hne]
 |succ K ih=>
  cases l with
  |nil=>cases hx
  |cons a l=>
   rw[orL,if_pos (h 0 a (by omega) rfl)]
   exact ih (fun i y hi hy=>h (i+1) y (by omega) (by simpa using hy)) (by simpa using hx)
theorem orL_miss {l:List Int} (h:∀(i:Nat) (y:Int),l[i]? =some y→y=0):orL l=0:=by
 induction l with
 |nil=>rfl
 |cons a l ih=>
  rw[orL,if_pos (h 0 a rfl)]
  exact ih fun i y hy=>h (i+1) y (by simpa using hy)
set_option maxRecDepth 100000 in
set_option maxHeartbeats 4000000 in
theorem or3_any (a b c:Int) (g:Nat) (w:World) (h:w.heap[g]? =some (.cells #[.int .i64 a,.int .i64 b,.int .i64 c] 3 (0,0))):
 Calls Tryz.prog 72 #[.slice (some ⟨g,0,none⟩) 3 3] w (Gives (.int .i64 (orL [a,b,c])) w):=by
 obtain⟨l,hl⟩:∃l,[a,b,c]=l:=⟨_,rfl⟩
 have hlen:l.length=3:=by rw[←hl];rfl
 have HC:=Lib.hid (show ∀K x,l[K]? =some x→w.cell? ⟨g,K,none⟩=some (.int .i64 x)from fun K x hx=>by
  rw[cell_of_row w g K _ _ _ h]
  rw[←hl]at hx
  match K,hx with
  |0,hx=>injection hx with hx;subst hx;rfl
  |1,hx=>injection hx with hx;subst hx;rfl
  |2,hx=>injection hx with hx;subst hx;rfl
  |K+3,hx=>simp at hx)
 rw[hl]
 clear hl h
 obtain⟨D,hD⟩:∃D,orL l=D:=⟨_,rfl⟩
 rw[hD]
 have HD:=Lib.hid hD
 clear hD
 go_enter Tryz.func72,Tryz.ntmps72
 go_wp2_with fail
 go_loop [8] (fun i=>∃K:Nat,K≤3∧i= .int .i64 (K:Int)∧Hid (∀i y,i<K→l[i]? =some y→y=0)) (fun i=>3-(intOf i).toNat)
 case atStart=>exact⟨0,Nat.zero_le _,rfl,Lib.hid fun i y h=>by omega⟩
 case round=>
  obtain⟨K,hK,rfl,HE⟩:=hrel
  by_cases hlt:K<3
  ·have hKI:(K:Int)<3:=by omega
   obtain⟨x,hx⟩:∃x,l[K]? =some x:=⟨_,List.getElem?_eq_getElem (by omega)⟩
   have hc:=HC.out K x hx
   have Hx:=Lib.hid hx
   clear hx
   by_cases hx0:x=0
   ·subst hx0
    have HE':Hid (∀i y,i<K+1→l[i]? =some y→y=0):=Lib.hid fun i y hi hy=>by
     by_cases e:i=K
     ·subst e
      rw[Hx.out]at hy
      injection hy with hy;exact hy.symm
     ·exact HE.out i y (by omega) hy
    go_wp2_with fail
    go_round
    case rel=>exact⟨K+1,by omega,by go_num,HE'⟩
    case measure=>simp[intOf];omega
   ·have HN:Hid (D=x):=Lib.hid (by rw[←HD.out];exact orL_hit HE.out Hx.out hx0)
    have f0:(x != 0)=true:=by simpa using hx0
    clear hx0
    go_wp2_with fail
    go_ret
    exact⟨by rw[HN.out];rfl,Below.refl _ _⟩
  ·obtain rfl:K=3:=by omega
   have HN:Hid (D=0):=Lib.hid (by
    rw[←HD.out]
    refine orL_miss fun i y hy=>HE.out i y ?_ hy
    have:=(List.getElem?_eq_some_iff.1 hy).1
    omega)
   go_wp2_with fail
   go_ret
   exact⟨by rw[HN.out];rfl,Below.refl _ _⟩
theorem rp_kind {w:World} {B n:Nat} {x:Vl} {C:Array Value} (h:Rp w B (n+1) x (.agg C)):C[0]? =some (.int .i64 x.k):=by
 obtain⟨L,Bs,Ps,e,_⟩:=h
 injection e with e
 rw[e];rfl
theorem ArrP.nice {x:Vl} {w:World} {B n:Nat} {v:Value} (h:ArrP x) (hx:Rp w B (n+1) x v):NiceV x:=by
 rcases h with h|⟨h5,h⟩
 ·exact .plain h
 ·have hr:=h
  rw[rightV,if_pos h5,Bool.and_eq_true,Bool.and_eq_true,List.all_eq_true]at h
  have e:x=arrV x.rows x.cols x.l:=by
   have hb:=h.2.1
   obtain⟨k,m,e,s,b,err,rows,cols,l,fn,bl,ps⟩:=x
   have h5':k=5:=h5
   subst h5'
   simp only[bareV,Bool.and_eq_true,Bool.or_eq_true,beq_iff_eq,Bool.not_eq_true',List.isEmpty_iff]at hb
   obtain⟨⟨⟨⟨⟨⟨h1,h2⟩,h3⟩,h4⟩,_⟩,_⟩,h7⟩:=hb
   have hs0:s.size=0→s=⟨#[]⟩:=fun h=>by
    obtain⟨⟨l⟩⟩:=s
    cases l with
    |nil=>rfl
    |cons a l=>exact absurd h (by simp[ByteArray.size])
   have a1:=h1.resolve_left (by decide)
   have a2:=hs0 ((h2.resolve_left (by decide)))
   have a3:=h3.resolve_left (by decide)
   have a4:=h4.resolve_left (by decide)
   have a7:=h7.resolve_left (by decide)
   simp[arrV,a1,a2,a3,a4,a7]
  rw[e]
  exact .arr h.2.2
set_option maxRecDepth 100000 in
set_option maxHeartbeats 4000000 in
/-- Two that are not both arrays. -/
theorem cmp_one (n:Nat) (x y:Vl) (v u:Value) (w:World) (hx:Rp w w.heap.size (n+2) x v) (hy:Rp w w.heap.size (n+2) y u) (px:ArrP x) (py:ArrP y) (hn:¬(x.k=5∧y.k=5)) (hT:Lib.Utf8Tabs 0 1 w):
 Calls Tryz.prog 28 #[v,u] w (Gives (.int .i64 (cmpV (n+2) x y)) w):=by
 have HRX:=Lib.hid (show ∀W,Below w.heap.size w W→w.heap.size≤W.heap.size→Calls Tryz.prog 27 #[v] W (Gives (.bool true) W)from fun W hW hz=>by
  have:=right27_any n x v W (hx.below hW hz) (px.nice hx) (tabs_below hT hW)
  rw[px.right]at this;exact this)
 have HRY:=Lib.hid (show ∀W,Below w.heap.size w W→w.heap.size≤W.heap.size→Calls Tryz.prog 27 #[u] W (Gives (.bool true) W)from fun W hW hz=>by
  have:=right27_any n y u W (hy.below hW hz) (py.nice hy) (tabs_below hT hW)
  rw[py.right]at this;exact this)
 have hcv:cmpV (n+2) x y=oneV x y:=by
  unfold cmpV
  rw[if_pos ⟨px.right _,py.right _⟩,if_neg hn]
 rw[hcv]
 have HO1:Hid (∀W,Calls Tryz.prog 71 #[v,u] W (Gives (.int .i64 (oneV x y)) W)):=Lib.hid fun W=>by
  by_cases hk:x.k=y.k
  ·rcases px with hp|⟨h5,_⟩
   ·rcases py with hq|⟨h5,_⟩
    ·rw[plain_cells hx hp,plain_cells hy hq]
     exact one_any x y W hp hq
    ·exact absurd ⟨hk.trans h5,h5⟩ hn
   ·exact absurd ⟨h5,hk.symm.trans h5⟩ hn
  ·obtain⟨C,rfl⟩:∃C,v= .agg C:=by obtain⟨_,_,_,e,_⟩:=hx;exact⟨_,e⟩
   obtain⟨C',rfl⟩:∃C,u= .agg C:=by obtain⟨_,_,_,e,_⟩:=hy;exact⟨_,e⟩
   rw[oneV_lex,if_neg hk]
   exact one_kinds C C' _ _ W (rp_kind hx) (rp_kind hy) hk
 obtain⟨C,rfl⟩:∃C,v= .agg C:=by obtain⟨_,_,_,e,_⟩:=hx;exact⟨_,e⟩
 obtain⟨C',rfl⟩:∃C,u= .agg C:=by obtain⟨_,_,_,e,_⟩:=hy;exact⟨_,e⟩
 have x0:=rp_kind hx
 have y0:=rp_kind hy
 have HO:=Lib.hid hx.one
 have HO':=Lib.hid hy.one
 generalize x.k=k at x0 hn
 generalize y.k=k' at y0 hn
 generalize oneV x y=D at HO1
 clear hcv hx hy px py hT
 have X0:=Lib.hid x0
 have Y0:=Lib.hid y0
 have Hn:=Lib.hid hn
 clear x0 y0 hn
 go_enter Tryz.func28,Tryz.ntmps28
 go_wp2_with (first|refine wpList_load34 rfl rfl rfl ((World.vb_new w C).alloc _) HO.out.1 ?_)
 obtain⟨W,hW⟩:∃W,W=(w.alloc (.cells C 34)).alloc (.cells C' 34):=⟨_,rfl⟩
 rw[←hW]
 have hvx:World.vb W w.heap.size C:=by rw[hW];exact(World.vb_new w C).alloc _
 have hvy:World.vb W (w.heap.size+1) C':=by rw[hW];exact World.vb_new' _ _ _ (by simp)
 have hB:Below w.heap.size w W:=by rw[hW];exact((Below.refl _ w).alloc (Nat.le_refl _) _).alloc (by simp) _
 clear hW
 refine(HRX.out _ hB hB.size).mono ?_
 rintro e2 w2 ⟨rfl,hB2⟩
 have hvx:=hvx.below hB2 hvx.lt
 have hvy:=hvy.below hB2 hvy.lt
 have hB:=hB.trans (hB2.mono hB.size)
 clear hB2
 go_wp2_with (first|refine wpList_load34g rfl rfl rfl hvy HO'.out.1 ?_)
 refine(HRY.out _ hB hB.size).mono ?_
 rintro e3 w3 ⟨rfl,hB3⟩
 have hvx:=hvx.below hB3 hvx.lt
 have hvy:=hvy.below hB3 hvy.lt
 have hB:=hB.trans (hB3.mono hB.size)
 clear hB3
 have c0:=hvx.cell X0.out
 have d0:=hvy.cell Y0.out
 by_cases h5:k=5
 ·have h5':¬k'=5:=fun e=>Hn.out ⟨h5,e⟩
  subst h5
  have f1:(k' != 5)=true:=by simpa using h5'
  clear h5'
  go_wp2_with (first|refine wpList_load34 rfl rfl rfl hvx HO.out.1 ?_|refine wpList_load34 rfl rfl rfl hvy HO'.out.1 ?_)
  refine(HO1.out _).mono ?_
  rintro e4 w4 ⟨rfl,hB4⟩
  have hB:=hB.trans (hB4.mono hB.size)
  clear hB4 hvx hvy c0 d0
  go_wp2_with fail
  go_ret
  exact⟨rfl,hB⟩
 ·have f1:(k != 5)=true:=by simpa using h5
  clear h5
  go_wp2_with (first|refine wpList_load34 rfl rfl rfl hvx HO.out.1 ?_|refine wpList_load34 rfl rfl rfl hvy HO'.out.1 ?_)
  refine(HO1.out _).mono ?_
  rintro e4 w4 ⟨rfl,hB4⟩
  have hB:=hB.trans (hB4.mono hB.size)
  clear hB4 hvx hvy c0 d0
  go_wp2_with fail
  go_ret
  exact⟨rfl,hB⟩
theorem cmp_or {r r' c c' d:Int}:orL [ordI r r',ordI c c',d]=if r≠r' then ordI r r' else if c≠c' then ordI c c' else d:=by
 rw[orL,orL,orL,orL]
 simp only[ordI_zero]
 by_cases h1:r=r'
 ·by_cases h2:c=c'
  ·by_cases h3:d=0
   ·simp[h1,h2,h3]
   ·simp[h1,h2,h3]
  ·simp[h1,h2]
 ·simp[h1]
set_option maxRecDepth 100000 in
set_option maxHeartbeats 8000000 in
/-- Two arrays. -/
theorem cmp_arr (n:Nat) (r c r' c':Int) (l l':List Vl) (v u:Value) (w:World) (hx:Rp w w.heap.size (n+2) (arrV r c l) v) (hy:Rp w w.heap.size (n+2) (arrV r' c' l') u)
 (px:rightV (n+2) (arrV r c l)=true) (py:rightV (n+2) (arrV r' c' l')=true) (hT:Lib.Utf8Tabs 0 1 w):
 Calls Tryz.prog 28 #[v,u] w (Gives (.int .i64 (cmpV (n+2) (arrV r c l) (arrV r' c' l'))) w):=by
 have ax:=(right_arr.1 px).2
 have ay:=(right_arr.1 py).2
 have HRX:=Lib.hid (show ∀W,Below w.heap.size w W→w.heap.size≤W.heap.size→Calls Tryz.prog 27 #[v] W (Gives (.bool true) W)from fun W hW hz=>by
  have:=right27_any n _ v W (hx.below hW hz) (.arr ax) (tabs_below hT hW)
  rw[px]at this;exact this)
 have HRY:=Lib.hid (show ∀W,Below w.heap.size w W→w.heap.size≤W.heap.size→Calls Tryz.prog 27 #[u] W (Gives (.bool true) W)from fun W hW hz=>by
  have:=right27_any n _ u W (hy.below hW hz) (.arr ay) (tabs_below hT hW)
  rw[py]at this;exact this)
 have hcv:cmpV (n+2) (arrV r c l) (arrV r' c' l')=orL [ordI r r',ordI c c',oneL l l']:=by
  unfold cmpV
  rw[if_pos ⟨px,py⟩,if_pos ⟨rfl,rfl⟩,cmp_or]
  rfl
 rw[hcv]
 obtain⟨p,k,rfl,hl,hok⟩:=arr_cells hx
 obtain⟨p',k',rfl,hl',hok'⟩:=arr_cells hy
 have HCF:=Lib.hid (show ∀W,Below w.heap.size w W→w.heap.size≤W.heap.size→Calls Tryz.prog 74 #[.slice p l.length k,.slice p' l'.length k',.func (.func 71) #[] #[]] W (Gives (.int .i64 (oneL l l')) W)from fun W hW hz=>
  cmpfunc_any n l l' _ _ W ax ay (hl.imp (fun p9 hp9=>hW.cell hp9) hz (fun y9 v9 h9=>h9.below hW hz)) (hl'.imp (fun p9 hp9=>hW.cell hp9) hz (fun y9 v9 h9=>h9.below hW hz)))
 obtain⟨C,hC⟩:∃C,vcs (arrV r c l) (.slice p l.length k) nilS nilS=C:=⟨_,rfl⟩
 obtain⟨C',hC'⟩:∃C,vcs (arrV r' c' l') (.slice p' l'.length k') nilS nilS=C:=⟨_,rfl⟩
 have HO:Hid (OneC C):=Lib.hid (by rw[←hC];exact vcs_one _ _ _ _ _ _ _ _ _ _)
 have HO':Hid (OneC C'):=Lib.hid (by rw[←hC'];exact vcs_one _ _ _ _ _ _ _ _ _ _)
 have x0:C[0]? =some (.int .i64 5):=by rw[←hC];rfl
 have x6:C[6]? =some (.int .i64 r):=by rw[←hC];rfl
 have x7:C[7]? =some (.int .i64 c):=by rw[←hC];rfl
 have x8:C[8]? =some (.slice p l.length k):=by rw[←hC];rfl
 have y0:C'[0]? =some (.int .i64 5):=by rw[←hC'];rfl
 have y6:C'[6]? =some (.int .i64 r'):=by rw[←hC'];rfl
 have y7:C'[7]? =some (.int .i64 c'):=by rw[←hC'];rfl
 have y8:C'[8]? =some (.slice p' l'.length k'):=by rw[←hC'];rfl
 have XS:=Lib.hid (And.intro (And.intro x0 (And.intro x6 (And.intro x7 x8))) (And.intro y0 (And.intro y6 (And.intro y7 y8))))
 rw[hC]at HRX⊢
 rw[hC']at HRY⊢
 generalize l.length=m at*
 generalize l'.length=m' at*
 generalize oneL l l'=D at HCF
 clear x0 x6 x7 x8 y0 y6 y7 y8 hC hC' hx hy px py hT hcv hl hl' hok hok' ax ay
 go_enter Tryz.func28,Tryz.ntmps28
 go_wp2_with (first|refine wpList_load34 rfl rfl rfl ((World.vb_new w C).alloc _) HO.out.1 ?_)
 obtain⟨W,hW⟩:∃W,W=(w.alloc (.cells C 34)).alloc (.cells C' 34):=⟨_,rfl⟩
 rw[←hW]
 have hvx:World.vb W w.heap.size C:=by rw[hW];exact(World.vb_new w C).alloc _
 have hvy:World.vb W (w.heap.size+1) C':=by rw[hW];exact World.vb_new' _ _ _ (by simp)
 have hB:Below w.heap.size w W:=by rw[hW];exact((Below.refl _ w).alloc (Nat.le_refl _) _).alloc (by simp) _
 clear hW
 refine(HRX.out _ hB hB.size).mono ?_
 rintro e2 w2 ⟨rfl,hB2⟩
 have hvx:=hvx.below hB2 hvx.lt
 have hvy:=hvy.below hB2 hvy.lt
 have hB:=hB.trans (hB2.mono hB.size)
 clear hB2
 go_wp2_with (first|refine wpList_load34g rfl rfl rfl hvy HO'.out.1 ?_)
 refine(HRY.out _ hB hB.size).mono ?_
 rintro e3 w3 ⟨rfl,hB3⟩
 have hvx:=hvx.below hB3 hvx.lt
 have hvy:=hvy.below hB3 hvy.lt
 have hB:=hB.trans (hB3.mono hB.size)
 clear hB3
 have c0:=hvx.cell XS.out.1.1
 have d0:=hvy.cell XS.out.2.1
 go_wp2_with fail
 clear c0 d0
 have hvx:=hvx.drew
 have hvy:=hvy.drew
 have hB:=hB.drew
 obtain⟨⟨x0,x6,x7,x8⟩,y0,y6,y7,y8⟩:=XS.out
 have c6:=hvx.cell x6
 have c7:=hvx.cell x7
 have c8:=hvx.cell x8
 have d6:=hvy.cell y6
 have d7:=hvy.cell y7
 have d8:=hvy.cell y8
 clear x0 y0
 go_region_held3 (fun w'=>w'.cell? ⟨w.heap.size,6,none⟩=some (.int .i64 r)∧w'.cell? ⟨w.heap.size,7,none⟩=some (.int .i64 c)∧w'.cell? ⟨w.heap.size,8,none⟩=some (.slice p m k)∧w'.cell? ⟨w.heap.size+1,6,none⟩=some (.int .i64 r')∧w'.cell? ⟨w.heap.size+1,7,none⟩=some (.int .i64 c')∧w'.cell? ⟨w.heap.size+1,8,none⟩=some (.slice p' m' k'))
  (first|exact⟨c6,c7,c8,d6,d7,d8⟩|exact⟨cell_alloc' c6,cell_alloc' c7,cell_alloc' c8,cell_alloc' d6,cell_alloc' d7,cell_alloc' d8⟩|fail)
  (first|(go_at_call 73;refine(cmp_int _ _ _).mono ?_;rintro e2 w2 ⟨rfl,hB2⟩;have hvx:=hvx.below hB2 hvx.lt;have hvy:=hvy.below hB2 hvy.lt;have hB:=hB.trans (hB2.mono hB.size);have c6:=hvx.cell x6;have c7:=hvx.cell x7;have c8:=hvx.cell x8;have d6:=hvy.cell y6;have d7:=hvy.cell y7;have d8:=hvy.cell y8)|(go_at_call 74;refine(HCF.out _ hB hB.size).mono ?_;rintro e2 w2 ⟨rfl,hB2⟩;have hvx:=hvx.below hB2 hvx.lt;have hvy:=hvy.below hB2 hvy.lt;have hB:=hB.trans (hB2.mono hB.size);have c6:=hvx.cell x6;have c7:=hvx.cell x7;have c8:=hvx.cell x8;have d6:=hvy.cell y6;have d7:=hvy.cell y7;have d8:=hvy.cell y8)|(go_at_call 72;refine(or3_any _ _ _ _ _ (heap_alloc_new _ _)).mono ?_;rintro e2 w2 ⟨rfl,hB2⟩;have hvx:=(hvx.alloc _).below hB2 (hvx.alloc _).lt;have hvy:=(hvy.alloc _).below hB2 (hvy.alloc _).lt;have hB:=(hB.alloc hB.size _).trans (hB2.mono (by have:=hB.size;simp;omega));have c6:=hvx.cell x6;have c7:=hvx.cell x7;have c8:=hvx.cell x8;have d6:=hvy.cell y6;have d7:=hvy.cell y7;have d8:=hvy.cell y8)|fail)
 all_goals
  go_wp2_with fail
  go_ret
  exact⟨rfl,hB⟩
/-- val.Compare. -/
theorem cmp28_any (n:Nat) (x y:Vl) (v u:Value) (w:World) (hx:Rp w w.heap.size (n+2) x v) (hy:Rp w w.heap.size (n+2) y u) (px:ArrP x) (py:ArrP y) (hT:Lib.Utf8Tabs 0 1 w):
 Calls Tryz.prog 28 #[v,u] w (Gives (.int .i64 (cmpV (n+2) x y)) w):=by
 by_cases hn:x.k=5∧y.k=5
 ·have rx:=px.right (n+1)
  have ry:=py.right (n+1)
  have nx:=px.nice hx
  have ny:=py.nice hy
  cases nx with
  |plain h=>exact absurd hn.1 (plain_kind h).1
  |arr h=>
   cases ny with
   |plain h=>exact absurd hn.2 (plain_kind h).1
   |arr h'=>exact cmp_arr n _ _ _ _ _ _ v u w hx hy rx ry hT
 ·exact cmp_one n x y v u w hx hy px py hn hT
end Go.Proofs.YtkhohjdakcchdaaGreatDoor
