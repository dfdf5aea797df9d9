/- Merged: Rco, Rcm. -/
import Derived.Test.YtkhohjdakcchdaaGreatDoorBb
import Derived.Test.YtkhohjdakcchdaaGreatDoorBq
import Derived.Test.YtkhohjdakcchdaaGreatDoorCmv
namespace Go.Proofs.YtkhohjdakcchdaaGreatDoor
open Go Go.RowKit Go.Shelf
theorem rorder_any (a b:Int) (w:World):Calls Tryz.prog 96 #[.int .i64 a,.int .i64 b] w (fun e w'=>e= .returned (.int .i64 (ordI a b))∧w'=w):=by
 by_cases h1:a<b
 ·have HN:Hid (ordI a b= -1):=Lib.hid (by unfold ordI;rw[if_pos h1])
  go_enter Tryz.func96,Tryz.ntmps96
  go_wp2_with fail
  go_ret
  exact⟨ret_int (by rw[HN.out]),rfl⟩
 by_cases h2:b<a
 ·have HN:Hid (ordI a b=1):=Lib.hid (by unfold ordI;rw[if_neg h1,if_pos h2])
  go_enter Tryz.func96,Tryz.ntmps96
  go_wp2_with fail
  go_ret
  exact⟨ret_int (by rw[HN.out]),rfl⟩
 ·have HN:Hid (ordI a b=0):=Lib.hid (by unfold ordI;rw[if_neg h1,if_neg h2])
  go_enter Tryz.func96,Tryz.ntmps96
  go_wp2_with fail
  go_ret
  exact⟨ret_int (by rw[HN.out]),rfl⟩
theorem rtruth_any (b:Bool) (w:World):Calls Tryz.prog 130 #[.bool b] w (fun e w'=>e= .returned (.int .i64 (truI b))∧w'=w):=by
 cases b
 all_goals
  go_enter Tryz.func130,Tryz.ntmps130
  go_wp2_with fail
  go_ret
  exact⟨rfl,rfl⟩
theorem cmpB_step {l r:List UInt8} {K:Nat} {a b:UInt8} (ha:l[K]? =some a) (hb:r[K]? =some b):
 Lib.compareBytes (l.drop K) (r.drop K)=if a<b then -1 else if b<a then 1 else Lib.compareBytes (l.drop (K+1)) (r.drop (K+1)):=by
 have h1:=List.drop_eq_getElem_cons (l:=l) (i:=K) (List.getElem?_eq_some_iff.1 ha).1
 have h2:=List.drop_eq_getElem_cons (l:=r) (i:=K) (List.getElem?_eq_some_iff.1 hb).1
 rw[(List.getElem?_eq_some_iff.1 ha).2]at h1
 rw[(List.getElem?_eq_some_iff.1 hb).2]at h2
 rw[h1,h2]
 rfl
theorem cmpB_end {l r:List UInt8} {K:Nat} (hl:K≤l.length) (hr:K≤r.length) (h:¬(K<l.length∧K<r.length)):Lib.compareBytes (l.drop K) (r.drop K)=ordI l.length r.length:=by
 unfold ordI
 by_cases h1:K<l.length
 ·have h2:r.length=K:=by omega
  rw[List.drop_of_length_le (by omega:r.length≤K),if_neg (by omega),if_pos (by omega),List.drop_eq_getElem_cons h1]
  rfl
 ·rw[List.drop_of_length_le (by omega:l.length≤K)]
  by_cases h2:K<r.length
  ·rw[if_pos (by omega),List.drop_eq_getElem_cons h2]
   rfl
  ·rw[List.drop_of_length_le (by omega:r.length≤K),if_neg (by omega),if_neg (by omega)]
   rfl
theorem byte_at (s:ByteArray) {K:Nat} (h:K<s.size):s.data.toList[K]? =some (s[K]'h):=by
 rw[List.getElem?_eq_getElem (by simpa using h)]
 rfl
set_option maxHeartbeats 4000000 in
theorem rbytes_any (a b:ByteArray) (w:World) (ha:a.size≤9223372036854775807) (hb:b.size≤9223372036854775807):
 Calls Tryz.prog 129 #[.string a,.string b] w (Gives (.int .i64 (Lib.compareBytes a.data.toList b.data.toList)) w):=by
 obtain⟨R,hR⟩:∃R,Lib.compareBytes a.data.toList b.data.toList=R:=⟨_,rfl⟩
 rw[hR]
 have HR:=Lib.hid hR
 clear hR
 go_enter Tryz.func129,Tryz.ntmps129
 go_wp2_with fail
 go_loopw [5] (fun i wr=>∃K:Nat,K≤a.size∧K≤b.size∧i= .int .i64 (K:Int)∧Below w.heap.size w wr∧Hid (Lib.compareBytes (a.data.toList.drop K) (b.data.toList.drop K)=R)) (fun i _=>a.size-(intOf i).toNat)
 case atStart=>exact⟨0,Nat.zero_le _,Nat.zero_le _,rfl,Below.refl _ _,HR⟩
 case round=>
  obtain⟨K,hKa,hKb,rfl,hB,HK⟩:=hrel
  by_cases h1:K<a.size
  ·have h1I:(K:Int)<(a.size:Int):=by omega
   by_cases h2:K<b.size
   ·have h2I:(K:Int)<(b.size:Int):=by omega
    have HS:=Lib.hid (cmpB_step (byte_at a h1) (byte_at b h2))
    have hx:=UInt8.toNat_lt (a[K]'h1)
    have hy:=UInt8.toNat_lt (b[K]'h2)
    by_cases e:(a[K]'h1)=(b[K]'h2)
    ·have HK':Hid (Lib.compareBytes (a.data.toList.drop (K+1)) (b.data.toList.drop (K+1))=R):=Lib.hid (by
      rw[←HK.out,HS.out,e,if_neg (by simp[UInt8.lt_iff_toNat_lt]),if_neg (by simp[UInt8.lt_iff_toNat_lt])])
     have f0:(((a[K]'h1).toNat:Int) != ((b[K]'h2).toNat:Int))=false:=by rw[e];simp
     clear e HS
     go_wp2_with fail
     refine wp_region_held_drew (S:=fun _=>True) (by kernel_rfl) trivial (fun hHeld=> ?_)
     refine tk 0 ⟨some 18,_,_,_,_,_⟩ ?_ hHeld ?_ ?_
     rotate_left
     ·(intro w9 hSw;(try dsimp only at hSw);go_simp)
      all_goals with_reducible rfl
     try simp only[Act.put,pk1,pk2,pk3]
     refine tk 1 ⟨some 19,_,_,_,_,_⟩ ?_ hHeld ?_ ?_
     rotate_left
     ·(intro w9 hSw;(try dsimp only at hSw);go_simp)
      all_goals with_reducible rfl
     try simp only[Act.put,pk1,pk2,pk3]
     refine tk 2 ⟨some 20,_,_,_,_,_⟩ ?_ hHeld ?_ ?_
     rotate_left
     ·(intro w9 hSw;(try dsimp only at hSw);go_simp)
      all_goals with_reducible rfl
     try simp only[Act.put,pk1,pk2,pk3]
     refine tk 3 ⟨some 21,_,_,_,_,_⟩ ?_ hHeld ?_ ?_
     rotate_left
     ·(intro w9 hSw;(try dsimp only at hSw);go_simp)
      all_goals with_reducible rfl
     try simp only[Act.put,pk1,pk2,pk3]
     refine tk 4 ⟨some 22,_,_,_,_,_⟩ ?_ hHeld ?_ ?_
     rotate_left
     ·(intro w9 hSw;(try dsimp only at hSw);go_simp)
      all_goals with_reducible rfl
     try simp only[Act.put,pk1,pk2,pk3]
     refine tk 5 ⟨some 23,_,_,_,_,_⟩ ?_ hHeld ?_ ?_
     rotate_left
     ·(intro w9 hSw;(try dsimp only at hSw);go_simp)
      all_goals with_reducible rfl
     try simp only[Act.put,pk1,pk2,pk3]
     refine tk 6 ⟨some 24,_,_,_,_,_⟩ ?_ hHeld ?_ ?_
     rotate_left
     ·(intro w9 hSw;(try dsimp only at hSw);go_simp)
      all_goals with_reducible rfl
     try simp only[Act.put,pk1,pk2,pk3]
     refine wpAnyH_done (by kernel_rfl) ?_ _
     try simp only[Act.put,pk1,pk2,pk3]
     have hB:=hB.drew
     go_wp2_with fail
     go_roundw
     case rel=>exact⟨K+1,by omega,by omega,by go_num,hB,HK'⟩
     case measure=>simp[intOf];omega
    ·have hne:¬(a[K]'h1).toNat=(b[K]'h2).toNat:=fun h=>e (UInt8.toNat_inj.1 h)
     have f0:(((a[K]'h1).toNat:Int) != ((b[K]'h2).toNat:Int))=true:=by simp;omega
     have HN:Hid (R=ordI ((a[K]'h1).toNat:Int) ((b[K]'h2).toNat:Int)):=Lib.hid (by
      rw[←HK.out,HS.out]
      unfold ordI
      simp only[UInt8.lt_iff_toNat_lt]
      by_cases h:(a[K]'h1).toNat<(b[K]'h2).toNat
      ·rw[if_pos h,if_pos (by omega)]
      ·rw[if_neg h,if_pos (by omega),if_neg (by omega),if_pos (by omega)])
     have hwa:IntKind.i64.wrap ((a[K]'h1).toNat:Int)=((a[K]'h1).toNat:Int):=IntWalk.i64_in _ (by omega)
     have hwb:IntKind.i64.wrap ((b[K]'h2).toNat:Int)=((b[K]'h2).toNat:Int):=IntWalk.i64_in _ (by omega)
     clear e HS hne
     go_wp2_with fail
     refine wp_region_held_drew (S:=fun _=>True) (by kernel_rfl) trivial (fun hHeld=> ?_)
     refine tk 0 ⟨some 18,_,_,_,_,_⟩ ?_ hHeld ?_ ?_
     rotate_left
     ·(intro w9 hSw;(try dsimp only at hSw);go_simp)
      all_goals with_reducible rfl
     try simp only[Act.put,pk1,pk2,pk3]
     refine tk 1 ⟨some 19,_,_,_,_,_⟩ ?_ hHeld ?_ ?_
     rotate_left
     ·(intro w9 hSw;(try dsimp only at hSw);go_simp)
      all_goals with_reducible rfl
     try simp only[Act.put,pk1,pk2,pk3]
     refine tk 2 ⟨some 20,_,_,_,_,_⟩ ?_ hHeld ?_ ?_
     rotate_left
     ·(intro w9 hSw;(try dsimp only at hSw);go_simp)
      all_goals with_reducible rfl
     try simp only[Act.put,pk1,pk2,pk3]
     refine tk 3 ⟨some 21,_,_,_,_,_⟩ ?_ hHeld ?_ ?_
     rotate_left
     ·(intro w9 hSw;(try dsimp only at hSw);go_simp)
      all_goals with_reducible rfl
     try simp only[Act.put,pk1,pk2,pk3]
     refine tk 4 ⟨some 22,_,_,_,_,_⟩ ?_ hHeld ?_ ?_
     rotate_left
     ·(intro w9 hSw;(try dsimp only at hSw);go_simp)
      all_goals with_reducible rfl
     try simp only[Act.put,pk1,pk2,pk3]
     refine tk 5 ⟨some 23,_,_,_,_,_⟩ ?_ hHeld ?_ ?_
     rotate_left
     ·(intro w9 hSw;(try dsimp only at hSw);go_simp)
      all_goals with_reducible rfl
     try simp only[Act.put,pk1,pk2,pk3]
     refine tk 6 ⟨some 24,_,_,_,_,_⟩ ?_ hHeld ?_ ?_
     rotate_left
     ·(intro w9 hSw;(try dsimp only at hSw);go_simp)
      all_goals with_reducible rfl
     try simp only[Act.put,pk1,pk2,pk3]
     refine wpAnyH_done (by kernel_rfl) ?_ _
     try simp only[Act.put,pk1,pk2,pk3]
     have hB:=hB.drew
     go_wp2_with fail
     refine wp_region_held_drew (S:=fun _=>True) (by kernel_rfl) trivial (fun hHeld=> ?_)
     refine tk 0 ⟨some 25,_,_,_,_,_⟩ ?_ hHeld ?_ ?_
     rotate_left
     ·(intro w9 hSw;(try dsimp only at hSw);go_simp)
      all_goals with_reducible rfl
     try simp only[Act.put,pk1,pk2,pk3]
     refine tk 1 ⟨some 26,_,_,_,_,_⟩ ?_ hHeld ?_ ?_
     rotate_left
     ·(intro w9 hSw;(try dsimp only at hSw);go_simp)
      all_goals with_reducible rfl
     try simp only[Act.put,pk1,pk2,pk3]
     refine tk 2 ⟨some 27,_,_,_,_,_⟩ ?_ hHeld ?_ ?_
     rotate_left
     ·(intro w9 hSw;(try dsimp only at hSw);go_simp)
      all_goals with_reducible rfl
     try simp only[Act.put,pk1,pk2,pk3]
     refine tk 3 ⟨some 28,_,_,_,_,_⟩ ?_ hHeld ?_ ?_
     rotate_left
     ·(intro w9 hSw;(try dsimp only at hSw);go_simp)
      all_goals with_reducible rfl
     try simp only[Act.put,pk1,pk2,pk3]
     refine tk 4 ⟨some 29,_,_,_,_,_⟩ ?_ hHeld ?_ ?_
     rotate_left
     ·(intro w9 hSw;(try dsimp only at hSw);go_simp)
      all_goals with_reducible rfl
     try simp only[Act.put,pk1,pk2,pk3]
     refine tk 5 ⟨some 30,_,_,_,_,_⟩ ?_ hHeld ?_ ?_
     rotate_left
     ·(intro w9 hSw;(try dsimp only at hSw);go_simp)
      all_goals with_reducible rfl
     try simp only[Act.put,pk1,pk2,pk3]
     refine tk 6 ⟨some 31,_,_,_,_,_⟩ ?_ hHeld ?_ ?_
     rotate_left
     ·(intro w9 hSw;(try dsimp only at hSw);go_simp)
      all_goals with_reducible rfl
     try simp only[Act.put,pk1,pk2,pk3]
     refine tk 7 ⟨some 32,_,_,_,_,_⟩ ?_ hHeld ?_ ?_
     rotate_left
     ·(intro w9 hSw;(try dsimp only at hSw);go_simp)
      all_goals with_reducible rfl
     try simp only[Act.put,pk1,pk2,pk3]
     refine wpAnyH_ready (rs:= [8]) (by kernel_rfl) (by simp) ?_
     refine(AllReadyH.cons (o:=⟨some 33,_,_,_,_,_⟩) rfl (fun KK hK=> ?_) AllReadyH.nil)
     ·(try rw[if_pos (by rfl)])
      go_simp
      refine(rorder_any _ _ _).mono ?_
      rintro e1 w1 ⟨rfl,rfl⟩
      refine hK.out _ _ trivial ?_
      clear hK KK hHeld
      intro hHeld
      try simp only[Act.put,pk1,pk2,pk3]
      refine tk 9 ⟨some 4,_,_,_,_,_⟩ ?_ hHeld ?_ ?_
      rotate_left
      ·(intro w9 hSw;(try dsimp only at hSw);go_simp)
       all_goals with_reducible rfl
      try simp only[Act.put,pk1,pk2,pk3]
      refine wpAnyH_done (by kernel_rfl) ?_ _
      try simp only[Act.put,pk1,pk2,pk3]
      have hB:=hB.drew
      go_wp2_with fail
      go_ret
      exact⟨ret_int HN.out.symm,hB⟩
   ·have h2I:¬(K:Int)<(b.size:Int):=by omega
    have HN:Hid (R=ordI (a.size:Int) (b.size:Int)):=Lib.hid (by
     rw[←HK.out,cmpB_end (by simpa using hKa) (by simpa using hKb) (by simp;omega)]
     simp)
    go_wp2_with fail
    refine(rorder_any _ _ _).mono ?_
    rintro e1 w1 ⟨rfl,rfl⟩
    go_wp2_with fail
    go_ret
    exact⟨ret_int HN.out.symm,hB⟩
  ·have h1I:¬(K:Int)<(a.size:Int):=by omega
   have HN:Hid (R=ordI (a.size:Int) (b.size:Int)):=Lib.hid (by
    rw[←HK.out,cmpB_end (by simpa using hKa) (by simpa using hKb) (by simp;omega)]
    simp)
   go_wp2_with fail
   refine(rorder_any _ _ _).mono ?_
   rintro e1 w1 ⟨rfl,rfl⟩
   go_wp2_with fail
   go_ret
   exact⟨ret_int HN.out.symm,hB⟩
set_option maxRecDepth 100000 in
set_option maxHeartbeats 8000000 in
theorem rone_sh (x y:Vl) (p p2 p3 q q2 q3:Option Addr) (c c2 c3 d d2 d3 n1 n2 n3 m1 m2 m3:Nat) (w:World) (hx:VOk x) (hy:VOk y):
 Calls Tryz.prog 95 #[.agg (vcs x (.slice p n1 c) (.slice p2 n2 c2) (.slice p3 n3 c3)),.agg (vcs y (.slice q m1 d) (.slice q2 m2 d2) (.slice q3 m3 d3))] w (Gives (.int .i64 (oneV x y)) w):=by
 have H1:=Lib.hid (show ∀W,Calls Tryz.prog 128 #[.agg #[.int .i64 x.m,.int .i64 x.e],.agg #[.int .i64 y.m,.int .i64 y.e]] W (CmpPost (cmpD x.m x.e y.m y.e) W)from fun W=>rcmp_any x.m x.e y.m y.e W hx.m.1 hx.m.2 hy.m.1 hy.m.2)
 have H2:=Lib.hid (show ∀W,Calls Tryz.prog 54 #[.string x.s] W (Gives (.string (foldS x.s)) W)from fun W=>rfold_any x.s W (by have:=hx.s;omega))
 have H3:=Lib.hid (show ∀W,Calls Tryz.prog 54 #[.string y.s] W (Gives (.string (foldS y.s)) W)from fun W=>rfold_any y.s W (by have:=hy.s;omega))
 have H4:=Lib.hid (show ∀W,Calls Tryz.prog 129 #[.string (foldS x.s),.string (foldS y.s)] W (Gives (.int .i64 (Lib.compareBytes (lowL x.s.data.toList) (lowL y.s.data.toList))) W)from fun W=>by
  have h1:(foldS x.s).size≤1000:=by unfold foldS lowL;rw[mk_size,List.length_map,←Lib.size_eq];exact hx.s
  have h2:(foldS y.s).size≤1000:=by unfold foldS lowL;rw[mk_size,List.length_map,←Lib.size_eq];exact hy.s
  exact rbytes_any (foldS x.s) (foldS y.s) W (by omega) (by omega))
 obtain⟨R,hR⟩:∃R,oneV x y=R:=⟨_,rfl⟩
 rw[hR]
 have HR:Hid (R=if x.k=y.k then kindV x y else ordI x.k y.k):=Lib.hid (by rw[←hR,oneV_lex])
 unfold kindV at HR
 obtain⟨C,hC⟩:∃C,vcs x (.slice p n1 c) (.slice p2 n2 c2) (.slice p3 n3 c3)=C:=⟨_,rfl⟩
 obtain⟨C',hC'⟩:∃C,vcs y (.slice q m1 d) (.slice q2 m2 d2) (.slice q3 m3 d3)=C:=⟨_,rfl⟩
 have x0:C[0]? =some (.int .i64 x.k):=by rw[←hC];rfl
 have x1:C[1]? =some (.int .i64 x.m):=by rw[←hC];rfl
 have x2:C[2]? =some (.int .i64 x.e):=by rw[←hC];rfl
 have x3:C[3]? =some (.string x.s):=by rw[←hC];rfl
 have x4:C[4]? =some (.bool x.b):=by rw[←hC];rfl
 have x5:C[5]? =some (.int .i64 x.err):=by rw[←hC];rfl
 have y0:C'[0]? =some (.int .i64 y.k):=by rw[←hC'];rfl
 have y1:C'[1]? =some (.int .i64 y.m):=by rw[←hC'];rfl
 have y2:C'[2]? =some (.int .i64 y.e):=by rw[←hC'];rfl
 have y3:C'[3]? =some (.string y.s):=by rw[←hC'];rfl
 have y4:C'[4]? =some (.bool y.b):=by rw[←hC'];rfl
 have y5:C'[5]? =some (.int .i64 y.err):=by rw[←hC'];rfl
 rw[hC,hC']
 clear hC hC' hR hx hy
 generalize x.k=xk at*
 generalize x.m=xm at*
 generalize x.e=xe at*
 generalize x.s=xs at*
 generalize x.b=xb at*
 generalize x.err=xerr at*
 generalize y.k=yk at*
 generalize y.m=ym at*
 generalize y.e=ye at*
 generalize y.s=ys at*
 generalize y.b=yb at*
 generalize y.err=yerr at*
 generalize foldS xs=fx at*
 generalize foldS ys=fy at*
 have hBW:Below w.heap.size w ((w.alloc (.cells C 34)).alloc (.cells C' 34)):=((Below.refl _ w).alloc (Nat.le_refl _) _).alloc (by simp) _
 by_cases hk:¬xk=yk
 ·have HN:Hid (R=ordI xk yk):=Lib.hid (by rw[HR.out,if_neg hk])
  have f0:(xk != yk)=true:=by simpa using hk
  clear hk HR
  go_enter Tryz.func95,Tryz.ntmps95
  go_wp2_with fail
  refine(rorder_any _ _ _).mono ?_
  rintro e1 w1 ⟨rfl,rfl⟩
  go_wp2_with fail
  go_ret
  exact⟨ret_int HN.out.symm,hBW⟩
 have hk:=Classical.not_not.1 hk
 subst hk
 have HR:Hid (R=_):=Lib.hid (HR.out.trans (if_pos rfl))
 by_cases h1:xk=1
 ·subst h1
  have HN:Hid (R=cmpD xm xe ym ye):=Lib.hid (by rw[HR.out,if_pos rfl])
  go_enter Tryz.func95,Tryz.ntmps95
  go_wp2_with fail
  refine(H1.out _).mono ?_
  rintro e1 w1 ⟨rfl,hB1⟩
  have hBW:=hBW.trans (hB1.mono hBW.size)
  clear hB1
  go_wp2_with fail
  go_ret
  exact⟨ret_int HN.out.symm,hBW⟩
 by_cases h2:xk=2
 ·subst h2
  have HN:Hid (R=Lib.compareBytes (lowL xs.data.toList) (lowL ys.data.toList)):=Lib.hid (by rw[HR.out,if_neg h1,if_pos rfl])
  go_enter Tryz.func95,Tryz.ntmps95
  go_wp2_with fail
  have hvx:=(((World.vb_new w C).alloc (.cells C' 34))).drew
  have hvy:=(World.vb_new' (w.alloc (.cells C 34)) C' (w.heap.size+1) (by simp)).drew
  have hBW:=hBW.drew
  refine wp_region_held_drew (S:=(fun w9=>World.vb w9 w.heap.size C∧World.vb w9 (w.heap.size+1) C')) (by kernel_rfl) ⟨hvx,hvy⟩ (fun hHeld=> ?_)
  refine tk 0 ⟨some 26,_,_,_,_,_⟩ ?_ hHeld ?_ ?_
  rotate_left
  ·(intro w9 hSw;(try dsimp only at hSw);go_simp)
   all_goals with_reducible rfl
  try simp only[Act.put,pk1,pk2,pk3]
  refine tk 1 ⟨some 27,_,_,_,_,_⟩ ?_ hHeld ?_ ?_
  rotate_left
  ·(intro w9 hSw;have ck:=hSw.1.cell x3;clear hSw;go_simp)
   all_goals with_reducible rfl
  try simp only[Act.put,pk1,pk2,pk3]
  refine tk 3 ⟨some 29,_,_,_,_,_⟩ ?_ hHeld ?_ ?_
  rotate_left
  ·(intro w9 hSw;(try dsimp only at hSw);go_simp)
   all_goals with_reducible rfl
  try simp only[Act.put,pk1,pk2,pk3]
  refine tk 4 ⟨some 30,_,_,_,_,_⟩ ?_ hHeld ?_ ?_
  rotate_left
  ·(intro w9 hSw;have ck:=hSw.2.cell y3;clear hSw;go_simp)
   all_goals with_reducible rfl
  try simp only[Act.put,pk1,pk2,pk3]
  refine wpAnyH_ready (rs:= [2]) (by kernel_rfl) (by simp) ?_
  refine(AllReadyH.cons (o:=⟨some 28,_,_,_,_,_⟩) rfl (fun KK hK=> ?_) AllReadyH.nil)
  ·(try rw[if_pos (by rfl)])
   go_simp
   refine(H2.out _).mono ?_
   rintro e8 w8 ⟨rfl,hB8⟩
   have hvx:=hvx.below hB8 hvx.lt
   have hvy:=hvy.below hB8 hvy.lt
   have hBW:=hBW.trans (hB8.mono hBW.size)
   clear hB8
   refine hK.out _ _ ⟨hvx,hvy⟩ ?_
   clear hK KK hHeld
   intro hHeld
   try simp only[Act.put,pk1,pk2,pk3]
   refine wpAnyH_ready (rs:= [5]) (by kernel_rfl) (by simp) ?_
   refine(AllReadyH.cons (o:=⟨some 31,_,_,_,_,_⟩) rfl (fun KK hK=> ?_) AllReadyH.nil)
   ·(try rw[if_pos (by rfl)])
    go_simp
    refine(H3.out _).mono ?_
    rintro e8 w8 ⟨rfl,hB8⟩
    have hvx:=hvx.below hB8 hvx.lt
    have hvy:=hvy.below hB8 hvy.lt
    have hBW:=hBW.trans (hB8.mono hBW.size)
    clear hB8
    refine hK.out _ _ ⟨hvx,hvy⟩ ?_
    clear hK KK hHeld
    intro hHeld
    try simp only[Act.put,pk1,pk2,pk3]
    refine wpAnyH_ready (rs:= [6]) (by kernel_rfl) (by simp) ?_
    refine(AllReadyH.cons (o:=⟨some 32,_,_,_,_,_⟩) rfl (fun KK hK=> ?_) AllReadyH.nil)
    ·(try rw[if_pos (by rfl)])
     go_simp
     refine(H4.out _).mono ?_
     rintro e8 w8 ⟨rfl,hB8⟩
     have hvx:=hvx.below hB8 hvx.lt
     have hvy:=hvy.below hB8 hvy.lt
     have hBW:=hBW.trans (hB8.mono hBW.size)
     clear hB8
     refine hK.out _ _ ⟨hvx,hvy⟩ ?_
     clear hK KK hHeld
     intro hHeld
     try simp only[Act.put,pk1,pk2,pk3]
     refine tk 7 ⟨some 4,_,_,_,_,_⟩ ?_ hHeld ?_ ?_
     rotate_left
     ·(intro w9 hSw;(try dsimp only at hSw);go_simp)
      all_goals with_reducible rfl
     try simp only[Act.put,pk1,pk2,pk3]
     refine wpAnyH_done (by kernel_rfl) ?_ _
     try simp only[Act.put,pk1,pk2,pk3]
     clear hvx hvy
     go_wp2_with fail
     go_ret
     exact⟨ret_int HN.out.symm,hBW⟩
 by_cases h3:xk=3
 ·subst h3
  have HN:Hid (R=ordI (truI xb) (truI yb)):=Lib.hid (by rw[HR.out,if_neg h1,if_neg h2,if_pos rfl])
  go_enter Tryz.func95,Tryz.ntmps95
  go_wp2_with fail
  have hvx:=(((World.vb_new w C).alloc (.cells C' 34))).drew
  have hvy:=(World.vb_new' (w.alloc (.cells C 34)) C' (w.heap.size+1) (by simp)).drew
  have hBW:=hBW.drew
  refine wp_region_held_drew (S:=(fun w9=>World.vb w9 w.heap.size C∧World.vb w9 (w.heap.size+1) C')) (by kernel_rfl) ⟨hvx,hvy⟩ (fun hHeld=> ?_)
  refine tk 0 ⟨some 35,_,_,_,_,_⟩ ?_ hHeld ?_ ?_
  rotate_left
  ·(intro w9 hSw;(try dsimp only at hSw);go_simp)
   all_goals with_reducible rfl
  try simp only[Act.put,pk1,pk2,pk3]
  refine tk 1 ⟨some 36,_,_,_,_,_⟩ ?_ hHeld ?_ ?_
  rotate_left
  ·(intro w9 hSw;have ck:=hSw.1.cell x4;clear hSw;go_simp)
   all_goals with_reducible rfl
  try simp only[Act.put,pk1,pk2,pk3]
  refine tk 3 ⟨some 38,_,_,_,_,_⟩ ?_ hHeld ?_ ?_
  rotate_left
  ·(intro w9 hSw;(try dsimp only at hSw);go_simp)
   all_goals with_reducible rfl
  try simp only[Act.put,pk1,pk2,pk3]
  refine tk 4 ⟨some 39,_,_,_,_,_⟩ ?_ hHeld ?_ ?_
  rotate_left
  ·(intro w9 hSw;have ck:=hSw.2.cell y4;clear hSw;go_simp)
   all_goals with_reducible rfl
  try simp only[Act.put,pk1,pk2,pk3]
  refine wpAnyH_ready (rs:= [2]) (by kernel_rfl) (by simp) ?_
  refine(AllReadyH.cons (o:=⟨some 37,_,_,_,_,_⟩) rfl (fun KK hK=> ?_) AllReadyH.nil)
  ·(try rw[if_pos (by rfl)])
   go_simp
   refine(rtruth_any _ _).mono ?_
   rintro e8 w8 ⟨rfl,rfl⟩
   refine hK.out _ _ ⟨hvx,hvy⟩ ?_
   clear hK KK hHeld
   intro hHeld
   try simp only[Act.put,pk1,pk2,pk3]
   refine wpAnyH_ready (rs:= [5]) (by kernel_rfl) (by simp) ?_
   refine(AllReadyH.cons (o:=⟨some 40,_,_,_,_,_⟩) rfl (fun KK hK=> ?_) AllReadyH.nil)
   ·(try rw[if_pos (by rfl)])
    go_simp
    refine(rtruth_any _ _).mono ?_
    rintro e8 w8 ⟨rfl,rfl⟩
    refine hK.out _ _ ⟨hvx,hvy⟩ ?_
    clear hK KK hHeld
    intro hHeld
    try simp only[Act.put,pk1,pk2,pk3]
    refine wpAnyH_ready (rs:= [6]) (by kernel_rfl) (by simp) ?_
    refine(AllReadyH.cons (o:=⟨some 41,_,_,_,_,_⟩) rfl (fun KK hK=> ?_) AllReadyH.nil)
    ·(try rw[if_pos (by rfl)])
     go_simp
     refine(rorder_any _ _ _).mono ?_
     rintro e8 w8 ⟨rfl,rfl⟩
     refine hK.out _ _ ⟨hvx,hvy⟩ ?_
     clear hK KK hHeld
     intro hHeld
     try simp only[Act.put,pk1,pk2,pk3]
     refine tk 7 ⟨some 4,_,_,_,_,_⟩ ?_ hHeld ?_ ?_
     rotate_left
     ·(intro w9 hSw;(try dsimp only at hSw);go_simp)
      all_goals with_reducible rfl
     try simp only[Act.put,pk1,pk2,pk3]
     refine wpAnyH_done (by kernel_rfl) ?_ _
     try simp only[Act.put,pk1,pk2,pk3]
     clear hvx hvy
     go_wp2_with fail
     go_ret
     exact⟨ret_int HN.out.symm,hBW⟩
 by_cases h4:xk=4
 ·subst h4
  have HN:Hid (R=ordI xerr yerr):=Lib.hid (by rw[HR.out,if_neg h1,if_neg h2,if_neg h3,if_pos rfl])
  go_enter Tryz.func95,Tryz.ntmps95
  go_wp2_with fail
  refine(rorder_any _ _ _).mono ?_
  rintro e1 w1 ⟨rfl,rfl⟩
  go_wp2_with fail
  go_ret
  exact⟨ret_int HN.out.symm,hBW⟩
 have HN:Hid (R=0):=Lib.hid (by rw[HR.out,if_neg h1,if_neg h2,if_neg h3,if_neg h4])
 have g1:(xk==1)=false:=by simpa using h1
 have g2:(xk==2)=false:=by simpa using h2
 have g3:(xk==3)=false:=by simpa using h3
 have g4:(xk==4)=false:=by simpa using h4
 clear h1 h2 h3 h4
 go_enter Tryz.func95,Tryz.ntmps95
 go_wp2_with fail
 go_ret
 exact⟨ret_int HN.out.symm,hBW⟩
theorem rone_any (n:Nat) (x y:Vl) (v u:Value) (w:World) (hx:Rp w w.heap.size (n+1) x v) (hy:Rp w w.heap.size (n+1) y u):Calls Tryz.prog 95 #[v,u] w (Gives (.int .i64 (oneV x y)) w):=by
 obtain⟨p,p2,p3,c,c2,c3,rfl,hok⟩:=hx.shapes
 obtain⟨q,q2,q3,d,d2,d3,rfl,hok'⟩:=hy.shapes
 exact rone_sh x y p p2 p3 q q2 q3 c c2 c3 d d2 d3 _ _ _ _ _ _ w hok hok'
end Go.Proofs.YtkhohjdakcchdaaGreatDoor
namespace Go.Proofs.YtkhohjdakcchdaaGreatDoor
open Go Go.RowKit Go.Shelf
theorem oneL_hit {l r:List Vl} {K:Nat} {x y:Vl} (h:∀i x y,i<K→l[i]? =some x→r[i]? =some y→oneV x y=0) (hx:l[K]? =some x) (hy:r[K]? =some y) (hne:¬oneV x y=0):oneL l r=oneV x y:=by
 have hl:=(List.getElem?_eq_some_iff.1 hx).1
 have hr:=(List.getElem?_eq_some_iff.1 hy).1
 rw[oneL_drop h (by omega) (by omega),List.drop_eq_getElem_cons hl,List.drop_eq_getElem_cons hr,(List.getElem?_eq_some_iff.1 hx).2,(List.getElem?_eq_some_iff.1 hy).2,oneL,if_neg hne]
theorem oneL_fin {l r:List Vl} (h:∀i x y,i<l.length→l[i]? =some x→r[i]? =some y→oneV x y=0) (e:l.length=r.length):oneL l r=0:=by
 rw[oneL_drop h (Nat.le_refl _) (by omega),List.drop_of_length_le (Nat.le_refl _),List.drop_of_length_le (by omega)]
 rfl
theorem right_len {n:Nat} {x:Vl} (h:rightV (n+1) x=true) (h5:x.k=5):(x.l.length:Int)=x.rows*x.cols:=by
 rw[rightV,if_pos h5,Bool.and_eq_true]at h
 have:=h.1
 unfold dimsB at this
 exact(of_decide_eq_true this).2.2.2.2.2
set_option maxRecDepth 100000 in
set_option maxHeartbeats 16000000 in
theorem rcmp39_any (n:Nat) (x y:Vl) (v u:Value) (w:World) (hx:Rp w w.heap.size (n+1) x v) (hy:Rp w w.heap.size (n+1) y u):Calls Tryz.prog 39 #[v,u] w (Gives (.int .i64 (cmpV (n+1) x y)) w):=by
 have HRX:=Lib.hid (show ∀W,Below w.heap.size w W→w.heap.size≤W.heap.size→Calls Tryz.prog 38 #[v] W (Gives (.bool (rightV (n+1) x)) W)from fun W hW hz=>rright38_any (n+1) x v W (hx.below hW hz))
 have HRY:=Lib.hid (show ∀W,Below w.heap.size w W→w.heap.size≤W.heap.size→Calls Tryz.prog 38 #[u] W (Gives (.bool (rightV (n+1) y)) W)from fun W hW hz=>rright38_any (n+1) y u W (hy.below hW hz))
 have HO1:=Lib.hid (show ∀W,Below w.heap.size w W→w.heap.size≤W.heap.size→Calls Tryz.prog 95 #[v,u] W (Gives (.int .i64 (oneV x y)) W)from fun W hW hz=>rone_any n x y v u W (hx.below hW hz) (hy.below hW hz))
 obtain⟨R,hR⟩:∃R,cmpV (n+1) x y=R:=⟨_,rfl⟩
 rw[hR]
 have HR:Hid (R=if rightV (n+1) x=true∧rightV (n+1) y=true then(if x.k=5∧y.k=5 then(if x.rows≠y.rows then ordI x.rows y.rows else if x.cols≠y.cols then ordI x.cols y.cols else oneL x.l y.l)else oneV x y)else 0):=Lib.hid hR.symm
 have HLN:=Lib.hid (show rightV (n+1) x=true→rightV (n+1) y=true→x.k=5→y.k=5→x.rows=y.rows→x.cols=y.cols→x.l.length=y.l.length from fun h1 h2 h3 h4 h5 h6=>by
  have e1:=right_len h1 h3
  have e2:=right_len h2 h4
  rw[h5,h6]at e1
  omega)
 obtain⟨L,Bs,Ps,rfl,_,⟨p,c,rfl,l1,l2,l3,_,HL⟩,⟨p2,c2,rfl,_⟩,⟨p3,c3,rfl,_⟩,_⟩:=hx
 obtain⟨L',Bs',Ps',rfl,_,⟨p',c',rfl,r1,r2,r3,_,HRR0⟩,⟨q2,d2,rfl,_⟩,⟨q3,d3,rfl,_⟩,_⟩:=hy
 have HLL:=Lib.hid HL
 have HRR:=Lib.hid HRR0
 have HM:=Lib.hid (show ∀(z:Vl) (cs:Array Value) (W:World),Rp W W.heap.size n z (.agg cs)→∃m,n=m+1 from fun z cs W h=>by cases n with
  |zero=>exact h.elim
  |succ m=>exact⟨m,rfl⟩)
 obtain⟨C,hC⟩:∃C,vcs x (.slice p x.l.length c) (.slice p2 x.bl.length c2) (.slice p3 x.ps.length c3)=C:=⟨_,rfl⟩
 obtain⟨C',hC'⟩:∃C,vcs y (.slice p' y.l.length c') (.slice q2 y.bl.length d2) (.slice q3 y.ps.length d3)=C:=⟨_,rfl⟩
 have HO:Hid (OneC C):=Lib.hid (by rw[←hC];exact vcs_one _ _ _ _ _ _ _ _ _ _)
 have HO':Hid (OneC C'):=Lib.hid (by rw[←hC'];exact vcs_one _ _ _ _ _ _ _ _ _ _)
 have X0:Hid (C[0]? =some (.int .i64 x.k)):=Lib.hid (by rw[←hC];rfl)
 have X6:Hid (C[6]? =some (.int .i64 x.rows)):=Lib.hid (by rw[←hC];rfl)
 have X7:Hid (C[7]? =some (.int .i64 x.cols)):=Lib.hid (by rw[←hC];rfl)
 have X8:Hid (C[8]? =some (.slice p x.l.length c)):=Lib.hid (by rw[←hC];rfl)
 have Y0:Hid (C'[0]? =some (.int .i64 y.k)):=Lib.hid (by rw[←hC'];rfl)
 have Y6:Hid (C'[6]? =some (.int .i64 y.rows)):=Lib.hid (by rw[←hC'];rfl)
 have Y7:Hid (C'[7]? =some (.int .i64 y.cols)):=Lib.hid (by rw[←hC'];rfl)
 have Y8:Hid (C'[8]? =some (.slice p' y.l.length c')):=Lib.hid (by rw[←hC'];rfl)
 rw[hC]at HRX HO1⊢
 rw[hC']at HRY HO1⊢
 clear hC hC' hR HL HRR0
 unfold maxLen at l2 r2
 obtain⟨ra,hra⟩:∃b,rightV (n+1) x=b:=⟨_,rfl⟩
 obtain⟨rb,hrb⟩:∃b,rightV (n+1) y=b:=⟨_,rfl⟩
 rw[hra]at HRX HR HLN
 rw[hrb]at HRY HR HLN
 clear hra hrb
 generalize x.k=xk at*
 generalize y.k=yk at*
 generalize x.rows=r at*
 generalize y.rows=r' at*
 generalize x.cols=cc at*
 generalize y.cols=cc' at*
 generalize oneV x y=ov at*
 generalize x.l=l at*
 generalize y.l=l' at*
 go_enter Tryz.func39,Tryz.ntmps39
 go_wp2_with (refine wpList_load34g rfl rfl rfl ((World.vb_new w C).alloc _) HO.out.1 ?_)
 obtain⟨W,hW⟩:∃W,W=(w.alloc (.cells C 34)).alloc (.cells C' 34):=⟨_,rfl⟩
 rw[←hW]
 have hvx:World.vb W w.heap.size C:=by rw[hW];exact(World.vb_new w C).alloc _
 have hvy:World.vb W (w.heap.size+1) C':=by rw[hW];exact World.vb_new' _ _ _ (by simp)
 have hB:Below w.heap.size w W:=by rw[hW];exact((Below.refl _ w).alloc (Nat.le_refl _) _).alloc (by simp) _
 clear hW
 refine(HRX.out _ hB hB.size).mono ?_
 rintro e2 w2 ⟨rfl,hB2⟩
 have hvx:=hvx.below hB2 hvx.lt
 have hvy:=hvy.below hB2 hvy.lt
 have hB:=hB.trans (hB2.mono hB.size)
 clear hB2
 cases ra with
 |false=>
  have HN:Hid (R=0):=Lib.hid (by rw[HR.out,if_neg (by simp)])
  go_wp2_with fail
  go_ret
  exact⟨ret_int HN.out.symm,hB⟩
 |true=>
  go_wp2_with (refine wpList_load34g rfl rfl rfl hvy HO'.out.1 ?_)
  refine(HRY.out _ hB hB.size).mono ?_
  rintro e3 w3 ⟨rfl,hB3⟩
  have hvx:=hvx.below hB3 hvx.lt
  have hvy:=hvy.below hB3 hvy.lt
  have hB:=hB.trans (hB3.mono hB.size)
  clear hB3
  cases rb with
  |false=>
   have HN:Hid (R=0):=Lib.hid (by rw[HR.out,if_neg (by simp)])
   go_wp2_with fail
   go_ret
   exact⟨ret_int HN.out.symm,hB⟩
  |true=>
   have HR:Hid (R=if xk=5∧yk=5 then(if r≠r' then ordI r r' else if cc≠cc' then ordI cc cc' else oneL l l')else ov):=Lib.hid (by rw[HR.out,if_pos (by simp)])
   have c0:=hvx.cell X0.out
   have d0:=hvy.cell Y0.out
   have c6:=hvx.cell X6.out
   have d6:=hvy.cell Y6.out
   have c7:=hvx.cell X7.out
   have d7:=hvy.cell Y7.out
   by_cases h5:xk=5
   ·by_cases h5':yk=5
    ·subst h5
     subst h5'
     by_cases hr:¬r=r'
     ·have HN:Hid (R=ordI r r'):=Lib.hid (by rw[HR.out,if_pos ⟨rfl,rfl⟩,if_pos hr])
      have f0:(r != r')=true:=by simpa using hr
      clear hr
      go_wp2_with fail
      refine(rorder_any _ _ _).mono ?_
      rintro e4 w4 ⟨rfl,rfl⟩
      go_wp2_with fail
      go_ret
      exact⟨ret_int HN.out.symm,hB⟩
     have hr:=Classical.not_not.1 hr
     subst hr
     by_cases hc:¬cc=cc'
     ·have HN:Hid (R=ordI cc cc'):=Lib.hid (by rw[HR.out,if_pos ⟨rfl,rfl⟩,if_neg (by simp),if_pos hc])
      have f0:(cc != cc')=true:=by simpa using hc
      clear hc
      go_wp2_with fail
      refine(rorder_any _ _ _).mono ?_
      rintro e4 w4 ⟨rfl,rfl⟩
      go_wp2_with fail
      go_ret
      exact⟨ret_int HN.out.symm,hB⟩
     have hc:=Classical.not_not.1 hc
     subst hc
     have HN0:Hid (R=oneL l l'):=Lib.hid (by rw[HR.out,if_pos ⟨rfl,rfl⟩,if_neg (by simp),if_neg (by simp)])
     have HLen:=Lib.hid (HLN.out (by simp) (by simp) (by simp) (by simp) (by simp) (by simp))
     go_wp2_with fail
     go_loopw [5] (fun i wr=>∃K:Nat,K≤l.length∧i= .int .i64 (K:Int)∧Below w.heap.size w wr∧World.vb wr w.heap.size C∧World.vb wr (w.heap.size+1) C'∧Hid (∀i x y,i<K→l[i]? =some x→l'[i]? =some y→oneV x y=0)) (fun i _=>l.length-(intOf i).toNat)
     case atStart=>exact⟨0,Nat.zero_le _,rfl,hB,hvx,hvy,Lib.hid fun i x y h=>by omega⟩
     case round=>
      clear hB hvx hvy c0 d0 c6 d6 c7 d7
      obtain⟨K,hK,rfl,hB,hvx,hvy,HE⟩:=hrel
      have u8:=hvx.cell X8.out
      have v8:=hvy.cell Y8.out
      by_cases hlt:K<l.length
      ·have hKI:(K:Int)<(l.length:Int):=by omega
       have hKI2:(K:Int)<(l'.length:Int):=by have:=HLen.out;omega
       obtain⟨a,ha⟩:∃x,l[K]? =some x:=⟨_,List.getElem?_eq_getElem hlt⟩
       obtain⟨b,hb⟩:∃y,l'[K]? =some y:=⟨_,List.getElem?_eq_getElem (by have:=HLen.out;omega)⟩
       obtain⟨g,off,cs,rfl,hg,hs,hx1,hx2⟩:=HLL.out K a ha
       obtain⟨g',off',cs',rfl,hg',hs',hy1,hy2⟩:=HRR.out K b hb
       have HCC:=Lib.hid (show ∀W,Below w.heap.size w W→∀j u,cs[j]? =some u→W.cell? ⟨g,off+K*12+j,none⟩=some u from fun W hW j u hj=>(hW.cell (p:=⟨g,_,none⟩) hg).trans (hx2 j u hj))
       have HCC':=Lib.hid (show ∀W,Below w.heap.size w W→∀j u,cs'[j]? =some u→W.cell? ⟨g',off'+K*12+j,none⟩=some u from fun W hW j u hj=>(hW.cell (p:=⟨g',_,none⟩) hg').trans (hy2 j u hj))
       have HOO:=Lib.hid hx1.one
       have HOO':=Lib.hid hy1.one
       have HQ:=Lib.hid (show ∀W,Below w.heap.size w W→w.heap.size≤W.heap.size→Calls Tryz.prog 95 #[.agg cs,.agg cs'] W (Gives (.int .i64 (oneV a b)) W)from fun W hW hz=>by
        have h9:Rp W W.heap.size n a (.agg cs):=hx1.below hW hz
        have h8:Rp W W.heap.size n b (.agg cs'):=hy1.below hW hz
        obtain⟨m9,e9⟩:=HM.out _ _ W h9
        subst e9
        exact rone_any m9 a b _ _ W h9 h8)
       have Ha:=Lib.hid ha
       have Hb:=Lib.hid hb
       obtain⟨q,hq⟩:∃q,oneV a b=q:=⟨_,rfl⟩
       rw[hq]at HQ
       have HQ2:=Lib.hid hq
       clear ha hb hx1 hy1 hx2 hy2 hs hs' hq
       go_wp2_with fail
       have hB:=hB.drew
       have hvx:=hvx.drew
       have hvy:=hvy.drew
       clear u8 v8
       have u8:=hvx.cell X8.out
       have v8:=hvy.cell Y8.out
       refine wp_region_held_drew (S:=(fun w9=>w9.cell? ⟨w.heap.size,8,none⟩=some (.slice (some ⟨g,off,none⟩) l.length c)∧w9.cell? ⟨w.heap.size+1,8,none⟩=some (.slice (some ⟨g',off',none⟩) l'.length c')∧(∀j u,cs[j]? =some u→w9.cell? ⟨g,off+K*12+j,none⟩=some u)∧(∀j u,cs'[j]? =some u→w9.cell? ⟨g',off'+K*12+j,none⟩=some u))) (by kernel_rfl) ⟨u8,v8,HCC.out _ hB,HCC'.out _ hB⟩ (fun hHeld=> ?_)
       refine tk 0 ⟨some 53,_,_,_,_,_⟩ ?_ hHeld ?_ ?_
       rotate_left
       ·(intro w9 hSw;(try dsimp only at hSw);go_simp)
        all_goals with_reducible rfl
       try simp only[Act.put,pk1,pk2,pk3]
       refine tk 1 ⟨some 54,_,_,_,_,_⟩ ?_ hHeld ?_ ?_
       rotate_left
       ·(intro w9 hSw;obtain⟨hs1,hs2,_,_⟩:=hSw;go_simp)
        all_goals with_reducible rfl
       try simp only[Act.put,pk1,pk2,pk3]
       refine tk 2 ⟨some 55,_,_,_,_,_⟩ ?_ hHeld ?_ ?_
       rotate_left
       ·(intro w9 hSw;(try dsimp only at hSw);go_simp)
        all_goals with_reducible rfl
       try simp only[Act.put,pk1,pk2,pk3]
       refine tk 3 ⟨some 56,_,_,_,_,_⟩ ?_ hHeld ?_ ?_
       rotate_left
       ·(intro w9 hSw;(try dsimp only at hSw);go_simp)
        all_goals with_reducible rfl
       try simp only[Act.put,pk1,pk2,pk3]
       refine tk 4 ⟨some 57,_,_,_,_,_⟩ ?_ hHeld ?_ ?_
       rotate_left
       ·(intro w9 hSw;refine yields34a (x:= .tmp 56) (g:=g) (off:=off+K*12) (cs:=cs) ?_ ?_ HOO.out.1 hSw.2.2.1<;>rfl)
       try simp only[Act.put,pk1,pk2,pk3]
       refine tk 5 ⟨some 58,_,_,_,_,_⟩ ?_ hHeld ?_ ?_
       rotate_left
       ·(intro w9 hSw;(try dsimp only at hSw);go_simp)
        all_goals with_reducible rfl
       try simp only[Act.put,pk1,pk2,pk3]
       refine tk 6 ⟨some 59,_,_,_,_,_⟩ ?_ hHeld ?_ ?_
       rotate_left
       ·(intro w9 hSw;obtain⟨hs1,hs2,_,_⟩:=hSw;go_simp)
        all_goals with_reducible rfl
       try simp only[Act.put,pk1,pk2,pk3]
       refine tk 7 ⟨some 60,_,_,_,_,_⟩ ?_ hHeld ?_ ?_
       rotate_left
       ·(intro w9 hSw;(try dsimp only at hSw);go_simp)
        all_goals with_reducible rfl
       try simp only[Act.put,pk1,pk2,pk3]
       refine tk 8 ⟨some 61,_,_,_,_,_⟩ ?_ hHeld ?_ ?_
       rotate_left
       ·(intro w9 hSw;(try dsimp only at hSw);go_simp)
        all_goals with_reducible rfl
       try simp only[Act.put,pk1,pk2,pk3]
       refine tk 9 ⟨some 62,_,_,_,_,_⟩ ?_ hHeld ?_ ?_
       rotate_left
       ·(intro w9 hSw;refine yields34a (x:= .tmp 61) (g:=g') (off:=off'+K*12) (cs:=cs') ?_ ?_ HOO'.out.1 hSw.2.2.2<;>rfl)
       try simp only[Act.put,pk1,pk2,pk3]
       refine wpAnyH_ready (rs:= [10]) (by kernel_rfl) (by simp) ?_
       refine(AllReadyH.cons (o:=⟨some 63,_,_,_,_,_⟩) rfl (fun KK hK=> ?_) AllReadyH.nil)
       ·(try rw[if_pos (by rfl)])
        go_simp
        refine(HQ.out _ hB hB.size).mono ?_
        rintro e4 w4 ⟨rfl,hB4⟩
        have hvx:=hvx.below hB4 hvx.lt
        have hvy:=hvy.below hB4 hvy.lt
        have hB:=hB.trans (hB4.mono hB.size)
        have u8:=hvx.cell X8.out
        have v8:=hvy.cell Y8.out
        clear hB4
        refine hK.out _ _ ⟨u8,v8,HCC.out _ hB,HCC'.out _ hB⟩ ?_
        clear hK KK hHeld
        intro hHeld
        try simp only[Act.put,pk1,pk2,pk3]
        refine tk 11 ⟨some 6,_,_,_,_,_⟩ ?_ hHeld ?_ ?_
        rotate_left
        ·(intro w9 hSw;(try dsimp only at hSw);go_simp)
         all_goals with_reducible rfl
        try simp only[Act.put,pk1,pk2,pk3]
        refine wpAnyH_done (by kernel_rfl) ?_ _
        try simp only[Act.put,pk1,pk2,pk3]
        by_cases hq0:q=0
        ·have HE':Hid (∀i x y,i<K+1→l[i]? =some x→l'[i]? =some y→oneV x y=0):=Lib.hid fun i x y hi hx hy=>by
          by_cases e:i=K
          ·subst e
           rw[Ha.out]at hx
           rw[Hb.out]at hy
           injection hx with hx
           injection hy with hy
           rw[←hx,←hy,HQ2.out,hq0]
          ·exact HE.out i x y (by omega) hx hy
         have f0:(q != 0)=false:=by simpa using hq0
         clear hq0
         go_wp2_with fail
         go_roundw
         case rel=>exact⟨K+1,by omega,by go_num,hB,hvx,hvy,HE'⟩
         case measure=>simp[intOf];omega
        ·have f0:(q != 0)=true:=by simpa using hq0
         have HN:Hid (R=q):=Lib.hid (by rw[HN0.out,oneL_hit HE.out Ha.out Hb.out (by rw[HQ2.out];exact hq0),HQ2.out])
         clear hq0
         go_wp2_with fail
         go_ret
         exact⟨ret_int HN.out.symm,hB⟩
      ·have hKI:¬(K:Int)<(l.length:Int):=by omega
       have HN:Hid (R=0):=Lib.hid (by
        obtain rfl:K=l.length:=by omega
        rw[HN0.out];exact oneL_fin HE.out HLen.out)
       clear HE
       go_wp2_with fail
       go_ret
       exact⟨ret_int HN.out.symm,hB⟩
    ·have HN:Hid (R=ov):=Lib.hid (by rw[HR.out,if_neg (fun h=>h5' h.2)])
     have f1:(yk != 5)=true:=by simpa using h5'
     subst h5
     clear h5'
     go_wp2_with (first|refine wpList_load34g rfl rfl rfl hvx HO.out.1 ?_|refine wpList_load34g rfl rfl rfl hvy HO'.out.1 ?_)
     refine(HO1.out _ hB hB.size).mono ?_
     rintro e4 w4 ⟨rfl,hB4⟩
     have hB:=hB.trans (hB4.mono hB.size)
     clear hB4 hvx hvy c0 d0 c6 d6 c7 d7
     go_wp2_with fail
     go_ret
     exact⟨ret_int HN.out.symm,hB⟩
   ·have HN:Hid (R=ov):=Lib.hid (by rw[HR.out,if_neg (fun h=>h5 h.1)])
    have f1:(xk != 5)=true:=by simpa using h5
    clear h5
    go_wp2_with (first|refine wpList_load34g rfl rfl rfl hvx HO.out.1 ?_|refine wpList_load34g rfl rfl rfl hvy HO'.out.1 ?_)
    refine(HO1.out _ hB hB.size).mono ?_
    rintro e4 w4 ⟨rfl,hB4⟩
    have hB:=hB.trans (hB4.mono hB.size)
    clear hB4 hvx hvy c0 d0 c6 d6 c7 d7
    go_wp2_with fail
    go_ret
    exact⟨ret_int HN.out.symm,hB⟩
end Go.Proofs.YtkhohjdakcchdaaGreatDoor
