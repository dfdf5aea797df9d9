/- Merged: Refs, Units, Nearr. -/
import Derived.Test.YtmhfioimgllgeaaGreatDoorR01
import Derived.Test.YtmhfioimgllgeaaGreatDoorR05
import Derived.Test.YtmhfioimgllgeaaGreatDoorR19
import Derived.Test.YtmhfioimgllgeaaGreatDoorR08
namespace Go.Proofs.YtmhfioimgllgeaaGreatDoor
theorem rhe_place (N:Nat) {B:Nat} (hB:0<B) {e:Int} (he: -9≤e):rhe (N*10 ^ 48) (B*10 ^ (48+e).toNat)=rhe (N*10 ^ (-e).toNat) (B*10 ^ e.toNat):=by
 obtain⟨c,hc⟩:∃c,c=(48+e).toNat-e.toNat:=⟨_,rfl⟩
 have e1:(48:Nat)=c+(-e).toNat:=by omega
 have e2:(48+e).toNat=c+e.toNat:=by omega
 have e3:(10:Nat) ^ 48=10 ^ c*10 ^ (-e).toNat:=by rw[←Nat.pow_add,←e1]
 rw[e2,e3,Nat.pow_add,Nat.mul_left_comm N,Nat.mul_left_comm B]
 exact rhe_scale (pow10_pos c) (Nat.mul_pos hB (pow10_pos _))
/-- The document's nearest decimal. -/
def refQ (s:Bool) (N B:Nat):(Int×Int)×Int:=nearQ s (N*10 ^ 48) B 19 (-9)
theorem nearQ_place (s:Bool) (N:Nat) {B:Nat} (hB:0<B) (n:Nat) {e:Int} (he: -9≤e):nearQ s (N*10 ^ 48) B (n+1) e=if rhe (N*10 ^ (-e).toNat) (B*10 ^ e.toNat)<10 ^ 15 then(decOf s (rhe (N*10 ^ (-e).toNat) (B*10 ^ e.toNat)) e,0)else nearQ s (N*10 ^ 48) B n (e+1):=by
 rw[nearQ,rhe_place N hB he]
/-- A decimal times ten to nine, without its sign. -/
def wholeN (M E:Int):Nat:=M.natAbs*10 ^ (E+9).toNat
theorem whole_tens (M:Int) {E:Int} (h: -9≤E):wholeN M E*10 ^ 39=M.natAbs*10 ^ (48+E).toNat:=by
 unfold wholeN
 rw[Nat.mul_assoc,←Nat.pow_add];congr 2;omega
theorem refQ_one (s:Bool) (N:Nat):refQ s N 1=near s (N*10 ^ 48) false:=by
 unfold refQ
 rw[near_Q1]
theorem wholeN_len {M E:Int} (h:M.natAbs<10 ^ 15) (hE:E≤9):lenD (wholeN M E)≤33:=by
 rw[lenD_iff]
 unfold wholeN
 calc M.natAbs*10 ^ (E+9).toNat<10 ^ 15*10 ^ (E+9).toNat:=Nat.mul_lt_mul_of_pos_right h (pow10_pos _)
  _≤10 ^ 15*10 ^ 18:=Nat.mul_le_mul_left _ (Nat.pow_le_pow_right (by decide) (by omega))
  _=10 ^ 33:=by rw[←Nat.pow_add]
end Go.Proofs.YtmhfioimgllgeaaGreatDoor
namespace Go.Proofs.YtmhfioimgllgeaaGreatDoor
open Go.RowKit Go.Shelf
theorem lenD_one :lenD 1=1:=by rw[lenD_pos (by decide),show 1 / 10=0 from rfl,lenD_zero]
theorem one_dl (w:World) {b:Nat} (hb:b≤w.heap.size):World.dl (w.alloc (.cells #[.int .i64 1] 3)) b (.slice (some ⟨w.heap.size,0,none⟩) 1 1) 1:=by
 have h:=World.ownsRow_lit w #[.int .i64 1] 1 (base:=b) (e:=3) (size:=1) hb (by decide) rfl
 refine World.dl.of (L:=1) ?_ lenD_one.symm
 exact h
set_option maxRecDepth 100000 in
set_option maxHeartbeats 400000 in
theorem whole_any (M E:Int) (w:World) (h0: -9223372036854775808≤M) (h1:M≤9223372036854775807) (e0: -9≤E) (e1:E≤9):
 Calls Tryz.prog 107 #[.agg #[.int .i64 M,.int .i64 E]] w (DlPost (wholeN M E) w):=by
 have hl:lenD M.natAbs≤19:=by
  rw[lenD_iff]
  have:(9223372036854775808:Nat)<10 ^ 19:=by decide
  omega
 have hw9:IntKind.i64.wrap (E+9)=E+9:=IntWalk.i64_in _ (by omega)
 go_enter Tryz.func107,Tryz.ntmps107
 go_wp2_with fail
 obtain⟨W,hW⟩:∃W,W=w.alloc (.cells #[.int .i64 M,.int .i64 E] 34):=⟨_,rfl⟩
 rw[←hW]
 have d0:World.dec W w.heap.size M E:=by rw[hW];exact World.dec_new w M E _ rfl
 have hB:Below w.heap.size w W:=by rw[hW];exact(Below.refl _ w).alloc (Nat.le_refl _) _
 clear hW
 have a0:=d0.c0
 have a1:=d0.c1
 go_region_held3 (fun w'=>w'.cell? ⟨w.heap.size,0,none⟩=some (.int .i64 M)∧w'.cell? ⟨w.heap.size,1,none⟩=some (.int .i64 E))
  (first|exact⟨a0,a1⟩)
  (first
   |(go_at_call 105;refine(digits_any M _ h0 h1).mono ?_;rintro e w1 ⟨v1,rfl,hd1,hB1⟩;have e0':=World.dec.below (World.dec.drew d0) hB1 d0.lt;have hC:=hB.drew.trans (hB1.mono hB.size);have a0:=e0'.c0;have a1:=e0'.c1)
   |(go_at_call 108;refine(ten_any _ v1 M.natAbs (E+9) _ hd1 (by omega) (by omega) (by omega)).mono ?_;rintro e w2 ⟨v2,rfl,hd2,hB2⟩;have e2':=World.dec.below e0' hB2 e0'.lt;have hD:=hC.trans (hB2.mono hC.size);have hd3:=hd2.mono hC.size;have a0:=e2'.c0;have a1:=e2'.c1))
 go_wp2_with fail
 go_ret
 exact⟨_,rfl,hd3,hD⟩
set_option maxRecDepth 100000 in
set_option maxHeartbeats 4000000 in
theorem lowest_any (m:Nat) (E:Int) (w:World) (hm:m<1000000000000000) (e0: -9≤E) (e1:E≤9):
 Calls Tryz.prog 230 #[.int .i64 (m:Int),.int .i64 E] w fun e w'=>e= .returned (decV (decOf false m E))∧Below w.heap.size w w':=by
 by_cases c:m=0
 ·subst c
  go_enter Tryz.func230,Tryz.ntmps230
  go_wp2_with fail
  refine bodyPost_ret (results_cell_row rfl _ _ _ 34 _ (0,0) _ rfl (World.dec_new w 0 0 _ rfl) Tryz.underlying34 rfl (by kernel_rfl)) rfl ?_
  exact⟨rfl,(Below.refl _ w).alloc (Nat.le_refl _) _⟩
 ·obtain⟨T,hT⟩:∃T,T=decOf false m E:=⟨_,rfl⟩
  have hcb:((m:Int)==0)=false:=by simpa using c
  rw[←hT]
  have HT:=Lib.hid hT
  have HC:=Lib.hid c
  clear hT c
  go_enter Tryz.func230,Tryz.ntmps230
  go_wp2_with fail
  obtain⟨W,hW⟩:∃W,W=w.alloc (.cells #[.int .i64 0,.int .i64 0] 34):=⟨_,rfl⟩
  rw[←hW]
  have d2:World.dec W w.heap.size 0 0:=by rw[hW];exact World.dec_new w 0 0 _ rfl
  have hB:Below w.heap.size w W:=by rw[hW];exact(Below.refl _ w).alloc (Nat.le_refl _) _
  clear hW hcb
  go_loopw [0,1] (fun x y wr=>∃(a:Nat) (b:Int),x= .int .i64 (a:Int)∧y= .int .i64 b∧Hid (a≠0)∧a<1000000000000000∧ -9≤b∧b≤9∧Hid (T=decOf false a b)∧wr=W) (fun _ y _=>(9-intOf y).toNat)
  case atStart=>exact⟨m,E,rfl,rfl,HC,hm,e0,e1,HT,rfl⟩
  case round=>
   obtain⟨a,b,rfl,rfl,ha,ha1,b0,b1,HA,rfl⟩:=hrel
   have f0:=d2.frozen 0
   have f1:=d2.frozen 1
   have g0:=d2.c0
   have g1:=d2.c1
   by_cases ht:a%10=0
   ·obtain⟨x,rfl⟩:∃x,a=x*10:=⟨a / 10,by omega⟩
    have hx:x≠0:=by have:=ha.out;omega
    have htm:(((x*10:Nat):Int)).tmod 10=0:=by rw[Int.tmod_eq_emod_of_nonneg (by omega)];omega
    have htd:(((x*10:Nat):Int)).tdiv 10=x:=by rw[Int.natCast_mul];exact Int.mul_tdiv_cancel _ (by decide)
    have HX:=Lib.hid hx
    clear ht hx
    obtain⟨y,hy⟩:∃y:Nat,x*10=y:=⟨_,rfl⟩
    have HY:=Lib.hid hy
    rw[hy]at htm htd ha1
    have hxl:(x:Int)≤999999999999999:=by omega
    clear hy
    rw[HY.out]
    by_cases hb:b<9
    ·have HD:Hid (T=decOf false x (b+1)):=by show _=_;rw[HA.out,decOf_ten false x hb]
     go_wp2_with fail
     go_roundw
     case rel=>exact⟨x,b+1,rfl,rfl,HX,by omega,by omega,by omega,HD,by first|rfl|trivial⟩
     case measure=>first|(simp[intOf];done)|(simp[intOf];omega)
    ·have HD:Hid (T=((y:Int),b)):=by
      show _=_
      rw[HA.out,HY.out]
      unfold decOf
      rw[if_neg (by have:=HX.out;have:=HY.out;omega),strip_stop (by omega)];rfl
     go_wp2_with fail
     refine bodyPost_ret (results_cell_row rfl _ _ _ 34 _ (0,0) _ rfl (World.dec.set1 (World.dec.set0 d2 (y:Int)) b) Tryz.underlying34 rfl (by kernel_rfl)) rfl ?_
     exact⟨by rw[HD.out],(hB.setCell (by simp) _).setCell (by simp) _⟩
   ·have htm:((a:Int).tmod 10==0)=false:=by
     rw[beq_eq_false_iff_ne,Int.tmod_eq_emod_of_nonneg (by omega)];omega
    have htm2:((a:Int)%10==0)=false:=by rw[beq_eq_false_iff_ne];omega
    have HD:Hid (T=((a:Int),b)):=by
     show _=_
     rw[HA.out]
     unfold decOf
     rw[if_neg ha.out,strip_stop (by omega)];rfl
    clear ht
    go_wp2_with fail
    refine bodyPost_ret (results_cell_row rfl _ _ _ 34 _ (0,0) _ rfl (World.dec.set1 (World.dec.set0 d2 (a:Int)) b) Tryz.underlying34 rfl (by kernel_rfl)) rfl ?_
    exact⟨by rw[HD.out],(hB.setCell (by simp) _).setCell (by simp) _⟩
end Go.Proofs.YtmhfioimgllgeaaGreatDoor
namespace Go.Proofs.YtmhfioimgllgeaaGreatDoor
open Go.RowKit Go.Shelf
theorem rhe_up {N D:Nat} (h:D<N%D+N%D∨(N%D+N%D=D∧dg (N / D) 0%2=1)):N / D+1=rhe N D:=by
 unfold rhe
 have e:dg (N / D) 0=((N / D%10:Nat):Int):=by unfold dg;rw[Nat.pow_zero,Nat.div_one]
 rw[e]at h
 generalize N / D=q at*
 generalize N%D=r at*
 rw[if_pos (by omega)]
theorem rhe_down {N D:Nat} (h:N%D+N%D<D∨(N%D+N%D=D∧dg (N / D) 0%2=0)):N / D=rhe N D:=by
 unfold rhe
 have e:dg (N / D) 0=((N / D%10:Nat):Int):=by unfold dg;rw[Nat.pow_zero,Nat.div_one]
 rw[e]at h
 generalize N / D=q at*
 generalize N%D=r at*
 rw[if_neg (by omega)];rfl
theorem p15n :(10:Nat) ^ 15=999999999999999+1:=by decide
theorem decOf_true (m:Nat) (E:Int):decOf true m E=(-(decOf false m E).1,(decOf false m E).2):=decOf_neg false m E
theorem decOf_bd {q:Nat} (E:Int) (h:q≤999999999999999) (e0: -9≤E) (e1:E≤9): -999999999999999≤(decOf false q E).1∧(decOf false q E).1≤999999999999999:=by
 have:=decOf_right false (q:=q) (e:=E) (by rw[p15n];omega) e0 e1
 exact⟨this.1,this.2.1⟩
set_option maxRecDepth 100000 in
set_option maxHeartbeats 16000000 in
theorem near_any (s:Bool) (b b':Nat) (v v':Value) (N B:Nat) (w:World) (h:World.dl w b v N) (h':World.dl w b' v' B) (hN:lenD N≤150) (hB0:lenD B≤150) (hBp:0<B):
 Calls Tryz.prog 104 #[.bool s,v,v'] w (DecPost (refQ s N B) w):=by
 obtain⟨T,hT⟩:∃T,T=refQ s N B:=⟨_,rfl⟩
 rw[←hT]
 have HT:=Lib.hid hT
 have H:=Lib.hid h
 have H':=Lib.hid h'
 have HN:=Lib.hid hN
 have HB0:=Lib.hid hB0
 have HBp:=Lib.hid hBp
 clear hT h h' hN hB0 hBp
 go_enter Tryz.func104,Tryz.ntmps104
 go_wp2_with fail
 obtain⟨W,hW⟩:∃W,W=w.alloc (.cells #[.int .i64 0,.int .i64 0] 34):=⟨_,rfl⟩
 rw[←hW]
 have d2:World.dec W w.heap.size 0 0:=by rw[hW];exact World.dec_new w 0 0 _ rfl
 have hnx:Below w.heap.size w W:=by rw[hW];exact(Below.refl _ w).alloc (Nat.le_refl _) _
 clear hW
 go_loopw [8] (fun k wr=>∃e:Int,k= .int .i64 e∧ -9≤e∧e≤10∧Hid (T=nearQ s (N*10 ^ 48) B (10-e).toNat e)∧World.dec wr w.heap.size 0 0∧Below w.heap.size w wr) (fun k _=>(10-intOf k).toNat)
 case atStart=>exact⟨-9,rfl,by decide,by decide,HT,d2,hnx⟩
 case round=>
  obtain⟨e,rfl,e0,e1,HE,d2,hnx⟩:=hrel
  by_cases c9:e≤9
  ·have HE2:Hid (T=if rhe (N*10 ^ (-e).toNat) (B*10 ^ e.toNat)<10 ^ 15 then(decOf s (rhe (N*10 ^ (-e).toNat) (B*10 ^ e.toNat)) e,0)else nearQ s (N*10 ^ 48) B (9-e).toNat (e+1)):=by
    show _=_
    rw[HE.out,show(10-e).toNat=(9-e).toNat+1 by omega,nearQ_place s N HBp.out _ e0]
   clear HE
   have h_den:=(show World.dl w b' v' B from H'.out).below hnx
   have h_num:=(show World.dl w b v N from H.out).below hnx
   have HC1:=Lib.hid (ten_any b' v' B e wr h_den (by have:=HB0.out;omega) (by omega) (by omega))
   have hsz:=hnx.size
   obtain⟨D,hD⟩:∃D,B*10 ^ e.toNat=D:=⟨_,rfl⟩
   obtain⟨M,hM⟩:∃M,N*10 ^ (-e).toNat=M:=⟨_,rfl⟩
   have hDl:lenD D≤160:=by rw[←hD];have:=tens_len (n:=B) (k:=e.toNat);have:=HB0.out;omega
   have hMl:lenD M≤160:=by rw[←hM];have:=tens_len (n:=N) (k:=(-e).toNat);have:=HN.out;omega
   have hDp:0<D:=by rw[←hD];exact Nat.mul_pos HBp.out (pow10_pos _)
   rw[hD,hM]at HE2
   rw[hD]at HC1
   have HM:=Lib.hid hM
   have HDl:=Lib.hid hDl
   have HMl:=Lib.hid hMl
   have HDp:=Lib.hid hDp
   clear hD hM hDl hMl hDp h_den
   go_wp2_with fail
   refine(HC1.out).mono ?_
   rintro e' w1 ⟨v_d,rfl,h_d,hB1⟩
   have h_num:=h_num.below hB1
   have h_d:=h_d.mono hsz
   have d2:=d2.below hB1 d2.lt
   have hnx:=hnx.trans (hB1.mono hnx.size)
   have hsz:=hnx.size
   clear hB1
   go_wp2_with fail
   clear HC1
   refine(ten_any b v N (-e) _ h_num (by have:=HN.out;omega) (by omega) (by omega)).mono ?_
   rintro e' w2 ⟨v_m,rfl,h_m,hB1⟩
   have h_num:=h_num.below hB1
   have h_d:=h_d.below hB1
   have h_m:=h_m.mono hsz
   have d2:=d2.below hB1 d2.lt
   have hnx:=hnx.trans (hB1.mono hnx.size)
   have hsz:=hnx.size
   clear hB1
   go_wp2_with fail
   rw[HM.out]at h_m
   clear h_num
   refine(byd_any w.heap.size w.heap.size _ _ M D _ h_m h_d (by have:=HMl.out;omega) (by have:=HDl.out;omega) HDp.out).mono ?_
   rintro e' w3 ⟨v_q,v_r,rfl,h_q,h_r,hB1⟩
   have h_d:=h_d.below hB1
   have h_m:=h_m.below hB1
   have h_q:=h_q.mono hsz
   have h_r:=h_r.mono hsz
   have d2:=d2.below hB1 d2.lt
   have hnx:=hnx.trans (hB1.mono hnx.size)
   have hsz:=hnx.size
   clear hB1
   clear h_m
   have hrl:lenD (M%D)≤160:=Nat.le_trans (lenD_mono (Nat.le_of_lt (Nat.mod_lt _ HDp.out))) HDl.out
   have hql:lenD (M / D)≤160:=Nat.le_trans (quo_len _ _) HMl.out
   have HRL:=Lib.hid hrl
   have HQL:=Lib.hid hql
   clear hrl hql
   go_wp2_with fail
   refine(plusd_any w.heap.size w.heap.size _ _ (M%D) (M%D) _ h_r h_r (by have:=HRL.out;omega) (by have:=HRL.out;omega)).mono ?_
   rintro e' w4 ⟨v_t,rfl,h_t,hB1⟩
   have h_d:=h_d.below hB1
   have h_q:=h_q.below hB1
   have h_r:=h_r.below hB1
   have h_t:=h_t.mono hsz
   have d2:=d2.below hB1 d2.lt
   have hnx:=hnx.trans (hB1.mono hnx.size)
   have hsz:=hnx.size
   clear hB1
   go_wp2_with fail
   clear h_r
   have htl:lenD (M%D+M%D)≤161:=by have:=lenD_add (M%D) (M%D);have:=HRL.out;omega
   have HTL:=Lib.hid htl
   clear htl
   obtain⟨Q,hQ⟩:∃Q,rhe M D=Q:=⟨_,rfl⟩
   rw[hQ]at HE2
   have HQ:=Lib.hid hQ
   clear hQ
   rcases(show D<M%D+M%D∨M%D+M%D<D∨(M%D+M%D=D∧dg (M / D) 0%2=1)∨(M%D+M%D=D∧dg (M / D) 0%2=0) by have:=dg_nonneg (M / D) 0;omega)with c|c|⟨c,c2⟩|⟨c,c2⟩
   ·have HU:=Lib.hid (rhe_up (.inl c))
    rw[HQ.out]at HU
    have HCC:=Lib.hid c
    clear c
    have HL:=Lib.hid (less_any w.heap.size w.heap.size _ _ D (M%D+M%D) _ h_d h_t (by have:=HDl.out;omega) (by have:=HTL.out;omega))
    rw[decide_eq_true HCC.out]at HL
    refine HL.out.mono ?_
    rintro e' wl ⟨rfl,n',rfl⟩
    clear HL
    obtain⟨w5,hw⟩:∃W,W=w4.drewN n':=⟨_,rfl⟩
    rw[←hw]
    have hB1:Below w4.heap.size w4 w5:=by rw[hw];exact below_drewN (Below.refl _ _) _
    clear hw
    have h_d:=h_d.below hB1
    have h_q:=h_q.below hB1
    have h_t:=h_t.below hB1
    have d2:=d2.below hB1 d2.lt
    have hnx:=hnx.trans (hB1.mono hnx.size)
    have hsz:=hnx.size
    clear hB1
    go_wp2_with fail
    obtain⟨w6,hw⟩:∃W,W=w5.alloc (.cells #[.int .i64 1] 3):=⟨_,rfl⟩
    rw[←hw]
    have hB1:Below w5.heap.size w5 w6:=by rw[hw];exact(Below.refl _ _).alloc (Nat.le_refl _) _
    have h_o:=one_dl w5 hsz
    rw[←hw]at h_o
    clear hw
    have h_d:=h_d.below hB1
    have h_q:=h_q.below hB1
    have h_t:=h_t.below hB1
    have d2:=d2.below hB1 d2.lt
    have hnx:=hnx.trans (hB1.mono hnx.size)
    have hsz:=hnx.size
    clear hB1
    refine(plusd_any w.heap.size w.heap.size _ _ (M / D) 1 _ h_q h_o (by have:=HQL.out;omega) (by rw[lenD_one];omega)).mono ?_
    rintro e' w7 ⟨v_z,rfl,h_z,hB1⟩
    have h_d:=h_d.below hB1
    have h_q:=h_q.below hB1
    have h_t:=h_t.below hB1
    have h_o:=h_o.below hB1
    have h_z:=h_z.mono hsz
    have d2:=d2.below hB1 d2.lt
    have hnx:=hnx.trans (hB1.mono hnx.size)
    have hsz:=hnx.size
    clear hB1
    go_wp2_with fail
    clear h_q h_o
    rw[HU.out]at h_z
    clear h_d h_t
    refine(digits_any 999999999999999 _ (by decide) (by decide)).mono ?_
    rintro e' w8 ⟨v_x,rfl,h_x,hB1⟩
    have h_z:=h_z.below hB1
    have h_x:=h_x.mono hsz
    have d2:=d2.below hB1 d2.lt
    have hnx:=hnx.trans (hB1.mono hnx.size)
    have hsz:=hnx.size
    clear hB1
    go_wp2_with fail
    rw[show (999999999999999:Int).natAbs=999999999999999 from rfl]at h_x
    have hzl:lenD Q≤161:=by rw[←HU.out];have:=HQL.out;have:=lenD_add (M / D) 1;have:=lenD_one;omega
    have HZL:=Lib.hid hzl
    have hxl:lenD 999999999999999≤15:=(lenD_iff _ _).2 (by decide)
    have HXL:=Lib.hid hxl
    clear hzl hxl
    by_cases c4:Q≤999999999999999
    ·have HE3:Hid (T=(decOf s Q e,0)):=by show _=_;rw[HE2.out,if_pos (by rw[p15n];omega)]
     have hQ18:lenD Q≤18:=(lenD_iff _ _).2 (Nat.lt_of_lt_of_le (Nat.lt_succ_of_le c4) (by decide))
     have HQ18:=Lib.hid hQ18
     have HC4:=Lib.hid c4
     clear c4 hQ18
     have HL:=Lib.hid (less_any w.heap.size w.heap.size _ _ 999999999999999 Q _ h_x h_z (by have:=HXL.out;omega) (by have:=HZL.out;omega))
     rw[decide_eq_false (by have:=HC4.out;omega)]at HL
     refine HL.out.mono ?_
     rintro e' wl ⟨rfl,n',rfl⟩
     clear HL
     obtain⟨w9,hw⟩:∃W,W=w8.drewN n':=⟨_,rfl⟩
     rw[←hw]
     have hB1:Below w8.heap.size w8 w9:=by rw[hw];exact below_drewN (Below.refl _ _) _
     clear hw
     have h_z:=h_z.below hB1
     have h_x:=h_x.below hB1
     have d2:=d2.below hB1 d2.lt
     have hnx:=hnx.trans (hB1.mono hnx.size)
     have hsz:=hnx.size
     clear hB1
     go_wp2_with fail
     refine(value_any w.heap.size _ Q _ h_z HQ18.out).mono ?_
     rintro e' wl ⟨rfl,rfl⟩
     go_wp2_with fail
     have HLO:=Lib.hid (fun W=>lowest_any Q e W (by have:=HC4.out;omega) e0 c9)
     have hbd:=decOf_bd e HC4.out e0 c9
     obtain⟨⟨P1,P2⟩,hP⟩:∃P,decOf false Q e=P:=⟨_,rfl⟩
     rw[hP]at HLO hbd
     have HP:=Lib.hid hP
     clear hP
     obtain⟨p0,p1⟩:=hbd
     simp only at p0 p1
     refine(HLO.out _).mono ?_
     rintro e' w10 ⟨rfl,hB1⟩
     have d2:=d2.below hB1 d2.lt
     have hnx:=hnx.trans (hB1.mono hnx.size)
     have hsz:=hnx.size
     clear hB1 h_z h_x HLO
     have l2:=d2.lt
     have q0:=d2.c0
     have q1:=d2.c1
     have q2:=d2.frozen 0
     have q3:=d2.frozen 1
     cases s
     ·have HE4:Hid (T=((P1,P2),0)):=by show _=_;rw[HE3.out,HP.out]
      go_wp2_with fail
      refine bodyPost_ret (results_dec_tmp rfl _ _ _ _ _ rfl (((d2.set0 _).set1 _).alloc _)) rfl ?_
      exact⟨by rw[HE4.out];rfl,Below.alloc ((hnx.setCell (by simp) _).setCell (by simp) _) (by simp;exact hsz) _⟩
     ·have HE4:Hid (T=((-P1,P2),0)):=by show _=_;rw[HE3.out,decOf_true,HP.out]
      go_wp2_with fail
      refine bodyPost_ret (results_dec_tmp rfl _ _ _ _ _ rfl (((d2.set0 _).set1 _).alloc _)) rfl ?_
      exact⟨by rw[HE4.out];rfl,Below.alloc ((hnx.setCell (by simp) _).setCell (by simp) _) (by simp;exact hsz) _⟩
    ·have HE3:Hid (T=nearQ s (N*10 ^ 48) B (9-e).toNat (e+1)):=by show _=_;rw[HE2.out,if_neg (by rw[p15n];omega)]
     have HC4:=Lib.hid c4
     clear c4
     have HL:=Lib.hid (less_any w.heap.size w.heap.size _ _ 999999999999999 Q _ h_x h_z (by have:=HXL.out;omega) (by have:=HZL.out;omega))
     rw[decide_eq_true (by have:=HC4.out;omega)]at HL
     refine HL.out.mono ?_
     rintro e' wl ⟨rfl,n',rfl⟩
     clear HL
     obtain⟨w9,hw⟩:∃W,W=w8.drewN n':=⟨_,rfl⟩
     rw[←hw]
     have hB1:Below w8.heap.size w8 w9:=by rw[hw];exact below_drewN (Below.refl _ _) _
     clear hw
     have h_z:=h_z.below hB1
     have h_x:=h_x.below hB1
     have d2:=d2.below hB1 d2.lt
     have hnx:=hnx.trans (hB1.mono hnx.size)
     have hsz:=hnx.size
     clear hB1
     go_wp2_with fail
     go_roundw
     case rel=>exact⟨e+1,rfl,by omega,by omega,by show _=_;rw[HE3.out,show(10-(e+1)).toNat=(9-e).toNat by omega],d2,hnx⟩
     case measure=>first|(simp[intOf];done)|(simp[intOf];omega)
   ·have HU:=Lib.hid (rhe_down (.inl c))
    rw[HQ.out]at HU
    have HCC:=Lib.hid c
    clear c
    have HL:=Lib.hid (less_any w.heap.size w.heap.size _ _ D (M%D+M%D) _ h_d h_t (by have:=HDl.out;omega) (by have:=HTL.out;omega))
    rw[decide_eq_false (by have:=HCC.out;omega)]at HL
    refine HL.out.mono ?_
    rintro e' wl ⟨rfl,n',rfl⟩
    clear HL
    obtain⟨w5,hw⟩:∃W,W=w4.drewN n':=⟨_,rfl⟩
    rw[←hw]
    have hB1:Below w4.heap.size w4 w5:=by rw[hw];exact below_drewN (Below.refl _ _) _
    clear hw
    have h_d:=h_d.below hB1
    have h_q:=h_q.below hB1
    have h_t:=h_t.below hB1
    have d2:=d2.below hB1 d2.lt
    have hnx:=hnx.trans (hB1.mono hnx.size)
    have hsz:=hnx.size
    clear hB1
    go_wp2_with fail
    have HL:=Lib.hid (less_any w.heap.size w.heap.size _ _ (M%D+M%D) D _ h_t h_d (by have:=HTL.out;omega) (by have:=HDl.out;omega))
    rw[decide_eq_true HCC.out]at HL
    refine HL.out.mono ?_
    rintro e' wl ⟨rfl,n',rfl⟩
    clear HL
    obtain⟨w6,hw⟩:∃W,W=w5.drewN n':=⟨_,rfl⟩
    rw[←hw]
    have hB1:Below w5.heap.size w5 w6:=by rw[hw];exact below_drewN (Below.refl _ _) _
    clear hw
    have h_d:=h_d.below hB1
    have h_q:=h_q.below hB1
    have h_t:=h_t.below hB1
    have d2:=d2.below hB1 d2.lt
    have hnx:=hnx.trans (hB1.mono hnx.size)
    have hsz:=hnx.size
    clear hB1
    go_wp2_with fail
    rw[HU.out]at h_q
    clear h_d h_t
    refine(digits_any 999999999999999 _ (by decide) (by decide)).mono ?_
    rintro e' w7 ⟨v_x,rfl,h_x,hB1⟩
    have h_q:=h_q.below hB1
    have h_x:=h_x.mono hsz
    have d2:=d2.below hB1 d2.lt
    have hnx:=hnx.trans (hB1.mono hnx.size)
    have hsz:=hnx.size
    clear hB1
    go_wp2_with fail
    rw[show (999999999999999:Int).natAbs=999999999999999 from rfl]at h_x
    have hzl:lenD Q≤161:=by rw[←HU.out];have:=HQL.out;omega
    have HZL:=Lib.hid hzl
    have hxl:lenD 999999999999999≤15:=(lenD_iff _ _).2 (by decide)
    have HXL:=Lib.hid hxl
    clear hzl hxl
    by_cases c4:Q≤999999999999999
    ·have HE3:Hid (T=(decOf s Q e,0)):=by show _=_;rw[HE2.out,if_pos (by rw[p15n];omega)]
     have hQ18:lenD Q≤18:=(lenD_iff _ _).2 (Nat.lt_of_lt_of_le (Nat.lt_succ_of_le c4) (by decide))
     have HQ18:=Lib.hid hQ18
     have HC4:=Lib.hid c4
     clear c4 hQ18
     have HL:=Lib.hid (less_any w.heap.size w.heap.size _ _ 999999999999999 Q _ h_x h_q (by have:=HXL.out;omega) (by have:=HZL.out;omega))
     rw[decide_eq_false (by have:=HC4.out;omega)]at HL
     refine HL.out.mono ?_
     rintro e' wl ⟨rfl,n',rfl⟩
     clear HL
     obtain⟨w8,hw⟩:∃W,W=w7.drewN n':=⟨_,rfl⟩
     rw[←hw]
     have hB1:Below w7.heap.size w7 w8:=by rw[hw];exact below_drewN (Below.refl _ _) _
     clear hw
     have h_q:=h_q.below hB1
     have h_x:=h_x.below hB1
     have d2:=d2.below hB1 d2.lt
     have hnx:=hnx.trans (hB1.mono hnx.size)
     have hsz:=hnx.size
     clear hB1
     go_wp2_with fail
     refine(value_any w.heap.size _ Q _ h_q HQ18.out).mono ?_
     rintro e' wl ⟨rfl,rfl⟩
     go_wp2_with fail
     have HLO:=Lib.hid (fun W=>lowest_any Q e W (by have:=HC4.out;omega) e0 c9)
     have hbd:=decOf_bd e HC4.out e0 c9
     obtain⟨⟨P1,P2⟩,hP⟩:∃P,decOf false Q e=P:=⟨_,rfl⟩
     rw[hP]at HLO hbd
     have HP:=Lib.hid hP
     clear hP
     obtain⟨p0,p1⟩:=hbd
     simp only at p0 p1
     refine(HLO.out _).mono ?_
     rintro e' w9 ⟨rfl,hB1⟩
     have d2:=d2.below hB1 d2.lt
     have hnx:=hnx.trans (hB1.mono hnx.size)
     have hsz:=hnx.size
     clear hB1 h_q h_x HLO
     have l2:=d2.lt
     have q0:=d2.c0
     have q1:=d2.c1
     have q2:=d2.frozen 0
     have q3:=d2.frozen 1
     cases s
     ·have HE4:Hid (T=((P1,P2),0)):=by show _=_;rw[HE3.out,HP.out]
      go_wp2_with fail
      refine bodyPost_ret (results_dec_tmp rfl _ _ _ _ _ rfl (((d2.set0 _).set1 _).alloc _)) rfl ?_
      exact⟨by rw[HE4.out];rfl,Below.alloc ((hnx.setCell (by simp) _).setCell (by simp) _) (by simp;exact hsz) _⟩
     ·have HE4:Hid (T=((-P1,P2),0)):=by show _=_;rw[HE3.out,decOf_true,HP.out]
      go_wp2_with fail
      refine bodyPost_ret (results_dec_tmp rfl _ _ _ _ _ rfl (((d2.set0 _).set1 _).alloc _)) rfl ?_
      exact⟨by rw[HE4.out];rfl,Below.alloc ((hnx.setCell (by simp) _).setCell (by simp) _) (by simp;exact hsz) _⟩
    ·have HE3:Hid (T=nearQ s (N*10 ^ 48) B (9-e).toNat (e+1)):=by show _=_;rw[HE2.out,if_neg (by rw[p15n];omega)]
     have HC4:=Lib.hid c4
     clear c4
     have HL:=Lib.hid (less_any w.heap.size w.heap.size _ _ 999999999999999 Q _ h_x h_q (by have:=HXL.out;omega) (by have:=HZL.out;omega))
     rw[decide_eq_true (by have:=HC4.out;omega)]at HL
     refine HL.out.mono ?_
     rintro e' wl ⟨rfl,n',rfl⟩
     clear HL
     obtain⟨w8,hw⟩:∃W,W=w7.drewN n':=⟨_,rfl⟩
     rw[←hw]
     have hB1:Below w7.heap.size w7 w8:=by rw[hw];exact below_drewN (Below.refl _ _) _
     clear hw
     have h_q:=h_q.below hB1
     have h_x:=h_x.below hB1
     have d2:=d2.below hB1 d2.lt
     have hnx:=hnx.trans (hB1.mono hnx.size)
     have hsz:=hnx.size
     clear hB1
     go_wp2_with fail
     go_roundw
     case rel=>exact⟨e+1,rfl,by omega,by omega,by show _=_;rw[HE3.out,show(10-(e+1)).toNat=(9-e).toNat by omega],d2,hnx⟩
     case measure=>first|(simp[intOf];done)|(simp[intOf];omega)
   ·have HU:=Lib.hid (rhe_up (.inr ⟨c,c2⟩))
    rw[HQ.out]at HU
    have HCC:=Lib.hid c
    clear c
    have HL:=Lib.hid (less_any w.heap.size w.heap.size _ _ D (M%D+M%D) _ h_d h_t (by have:=HDl.out;omega) (by have:=HTL.out;omega))
    rw[decide_eq_false (by have:=HCC.out;omega)]at HL
    refine HL.out.mono ?_
    rintro e' wl ⟨rfl,n',rfl⟩
    clear HL
    obtain⟨w5,hw⟩:∃W,W=w4.drewN n':=⟨_,rfl⟩
    rw[←hw]
    have hB1:Below w4.heap.size w4 w5:=by rw[hw];exact below_drewN (Below.refl _ _) _
    clear hw
    have h_d:=h_d.below hB1
    have h_q:=h_q.below hB1
    have h_t:=h_t.below hB1
    have d2:=d2.below hB1 d2.lt
    have hnx:=hnx.trans (hB1.mono hnx.size)
    have hsz:=hnx.size
    clear hB1
    go_wp2_with fail
    have HAT:=Lib.hid (fun (W:World) (h:World.dl W w.heap.size v_q (M / D))=>at_any w.heap.size v_q (M / D) 0 W h (by omega) (by have:=HQL.out;omega))
    have g0:=dg_nonneg (M / D) 0
    have g1:=dg_le (M / D) 0
    obtain⟨G,hG⟩:∃G,dg (M / D) 0=G:=⟨_,rfl⟩
    rw[hG]at HAT c2 g0 g1
    clear hG
    have c3:G.tmod 2=1:=by rw[Int.tmod_eq_emod_of_nonneg g0];exact c2
    have HL:=Lib.hid (less_any w.heap.size w.heap.size _ _ (M%D+M%D) D _ h_t h_d (by have:=HTL.out;omega) (by have:=HDl.out;omega))
    rw[decide_eq_false (by have:=HCC.out;omega)]at HL
    refine HL.out.mono ?_
    rintro e' wl ⟨rfl,n',rfl⟩
    clear HL
    obtain⟨w6,hw⟩:∃W,W=w5.drewN n':=⟨_,rfl⟩
    rw[←hw]
    have hB1:Below w5.heap.size w5 w6:=by rw[hw];exact below_drewN (Below.refl _ _) _
    clear hw
    have h_d:=h_d.below hB1
    have h_q:=h_q.below hB1
    have h_t:=h_t.below hB1
    have d2:=d2.below hB1 d2.lt
    have hnx:=hnx.trans (hB1.mono hnx.size)
    have hsz:=hnx.size
    clear hB1
    go_wp2_with fail
    refine(HAT.out _ h_q).mono ?_
    rintro e' wl ⟨rfl,hwl⟩
    rw[hwl]
    clear hwl wl
    go_wp2_with fail
    obtain⟨w7,hw⟩:∃W,W=w6.alloc (.cells #[.int .i64 1] 3):=⟨_,rfl⟩
    rw[←hw]
    have hB1:Below w6.heap.size w6 w7:=by rw[hw];exact(Below.refl _ _).alloc (Nat.le_refl _) _
    have h_o:=one_dl w6 hsz
    rw[←hw]at h_o
    clear hw
    have h_d:=h_d.below hB1
    have h_q:=h_q.below hB1
    have h_t:=h_t.below hB1
    have d2:=d2.below hB1 d2.lt
    have hnx:=hnx.trans (hB1.mono hnx.size)
    have hsz:=hnx.size
    clear hB1
    refine(plusd_any w.heap.size w.heap.size _ _ (M / D) 1 _ h_q h_o (by have:=HQL.out;omega) (by rw[lenD_one];omega)).mono ?_
    rintro e' w8 ⟨v_z,rfl,h_z,hB1⟩
    have h_d:=h_d.below hB1
    have h_q:=h_q.below hB1
    have h_t:=h_t.below hB1
    have h_o:=h_o.below hB1
    have h_z:=h_z.mono hsz
    have d2:=d2.below hB1 d2.lt
    have hnx:=hnx.trans (hB1.mono hnx.size)
    have hsz:=hnx.size
    clear hB1
    go_wp2_with fail
    clear h_q h_o
    rw[HU.out]at h_z
    clear h_d h_t
    refine(digits_any 999999999999999 _ (by decide) (by decide)).mono ?_
    rintro e' w9 ⟨v_x,rfl,h_x,hB1⟩
    have h_z:=h_z.below hB1
    have h_x:=h_x.mono hsz
    have d2:=d2.below hB1 d2.lt
    have hnx:=hnx.trans (hB1.mono hnx.size)
    have hsz:=hnx.size
    clear hB1
    go_wp2_with fail
    rw[show (999999999999999:Int).natAbs=999999999999999 from rfl]at h_x
    have hzl:lenD Q≤161:=by rw[←HU.out];have:=HQL.out;have:=lenD_add (M / D) 1;have:=lenD_one;omega
    have HZL:=Lib.hid hzl
    have hxl:lenD 999999999999999≤15:=(lenD_iff _ _).2 (by decide)
    have HXL:=Lib.hid hxl
    clear hzl hxl
    by_cases c4:Q≤999999999999999
    ·have HE3:Hid (T=(decOf s Q e,0)):=by show _=_;rw[HE2.out,if_pos (by rw[p15n];omega)]
     have hQ18:lenD Q≤18:=(lenD_iff _ _).2 (Nat.lt_of_lt_of_le (Nat.lt_succ_of_le c4) (by decide))
     have HQ18:=Lib.hid hQ18
     have HC4:=Lib.hid c4
     clear c4 hQ18
     have HL:=Lib.hid (less_any w.heap.size w.heap.size _ _ 999999999999999 Q _ h_x h_z (by have:=HXL.out;omega) (by have:=HZL.out;omega))
     rw[decide_eq_false (by have:=HC4.out;omega)]at HL
     refine HL.out.mono ?_
     rintro e' wl ⟨rfl,n',rfl⟩
     clear HL
     obtain⟨w10,hw⟩:∃W,W=w9.drewN n':=⟨_,rfl⟩
     rw[←hw]
     have hB1:Below w9.heap.size w9 w10:=by rw[hw];exact below_drewN (Below.refl _ _) _
     clear hw
     have h_z:=h_z.below hB1
     have h_x:=h_x.below hB1
     have d2:=d2.below hB1 d2.lt
     have hnx:=hnx.trans (hB1.mono hnx.size)
     have hsz:=hnx.size
     clear hB1
     go_wp2_with fail
     refine(value_any w.heap.size _ Q _ h_z HQ18.out).mono ?_
     rintro e' wl ⟨rfl,rfl⟩
     go_wp2_with fail
     have HLO:=Lib.hid (fun W=>lowest_any Q e W (by have:=HC4.out;omega) e0 c9)
     have hbd:=decOf_bd e HC4.out e0 c9
     obtain⟨⟨P1,P2⟩,hP⟩:∃P,decOf false Q e=P:=⟨_,rfl⟩
     rw[hP]at HLO hbd
     have HP:=Lib.hid hP
     clear hP
     obtain⟨p0,p1⟩:=hbd
     simp only at p0 p1
     refine(HLO.out _).mono ?_
     rintro e' w11 ⟨rfl,hB1⟩
     have d2:=d2.below hB1 d2.lt
     have hnx:=hnx.trans (hB1.mono hnx.size)
     have hsz:=hnx.size
     clear hB1 h_z h_x HLO
     have l2:=d2.lt
     have q0:=d2.c0
     have q1:=d2.c1
     have q2:=d2.frozen 0
     have q3:=d2.frozen 1
     cases s
     ·have HE4:Hid (T=((P1,P2),0)):=by show _=_;rw[HE3.out,HP.out]
      go_wp2_with fail
      refine bodyPost_ret (results_dec_tmp rfl _ _ _ _ _ rfl (((d2.set0 _).set1 _).alloc _)) rfl ?_
      exact⟨by rw[HE4.out];rfl,Below.alloc ((hnx.setCell (by simp) _).setCell (by simp) _) (by simp;exact hsz) _⟩
     ·have HE4:Hid (T=((-P1,P2),0)):=by show _=_;rw[HE3.out,decOf_true,HP.out]
      go_wp2_with fail
      refine bodyPost_ret (results_dec_tmp rfl _ _ _ _ _ rfl (((d2.set0 _).set1 _).alloc _)) rfl ?_
      exact⟨by rw[HE4.out];rfl,Below.alloc ((hnx.setCell (by simp) _).setCell (by simp) _) (by simp;exact hsz) _⟩
    ·have HE3:Hid (T=nearQ s (N*10 ^ 48) B (9-e).toNat (e+1)):=by show _=_;rw[HE2.out,if_neg (by rw[p15n];omega)]
     have HC4:=Lib.hid c4
     clear c4
     have HL:=Lib.hid (less_any w.heap.size w.heap.size _ _ 999999999999999 Q _ h_x h_z (by have:=HXL.out;omega) (by have:=HZL.out;omega))
     rw[decide_eq_true (by have:=HC4.out;omega)]at HL
     refine HL.out.mono ?_
     rintro e' wl ⟨rfl,n',rfl⟩
     clear HL
     obtain⟨w10,hw⟩:∃W,W=w9.drewN n':=⟨_,rfl⟩
     rw[←hw]
     have hB1:Below w9.heap.size w9 w10:=by rw[hw];exact below_drewN (Below.refl _ _) _
     clear hw
     have h_z:=h_z.below hB1
     have h_x:=h_x.below hB1
     have d2:=d2.below hB1 d2.lt
     have hnx:=hnx.trans (hB1.mono hnx.size)
     have hsz:=hnx.size
     clear hB1
     go_wp2_with fail
     go_roundw
     case rel=>exact⟨e+1,rfl,by omega,by omega,by show _=_;rw[HE3.out,show(10-(e+1)).toNat=(9-e).toNat by omega],d2,hnx⟩
     case measure=>first|(simp[intOf];done)|(simp[intOf];omega)
   ·have HU:=Lib.hid (rhe_down (.inr ⟨c,c2⟩))
    rw[HQ.out]at HU
    have HCC:=Lib.hid c
    clear c
    have HL:=Lib.hid (less_any w.heap.size w.heap.size _ _ D (M%D+M%D) _ h_d h_t (by have:=HDl.out;omega) (by have:=HTL.out;omega))
    rw[decide_eq_false (by have:=HCC.out;omega)]at HL
    refine HL.out.mono ?_
    rintro e' wl ⟨rfl,n',rfl⟩
    clear HL
    obtain⟨w5,hw⟩:∃W,W=w4.drewN n':=⟨_,rfl⟩
    rw[←hw]
    have hB1:Below w4.heap.size w4 w5:=by rw[hw];exact below_drewN (Below.refl _ _) _
    clear hw
    have h_d:=h_d.below hB1
    have h_q:=h_q.below hB1
    have h_t:=h_t.below hB1
    have d2:=d2.below hB1 d2.lt
    have hnx:=hnx.trans (hB1.mono hnx.size)
    have hsz:=hnx.size
    clear hB1
    go_wp2_with fail
    have HAT:=Lib.hid (fun (W:World) (h:World.dl W w.heap.size v_q (M / D))=>at_any w.heap.size v_q (M / D) 0 W h (by omega) (by have:=HQL.out;omega))
    have g0:=dg_nonneg (M / D) 0
    have g1:=dg_le (M / D) 0
    obtain⟨G,hG⟩:∃G,dg (M / D) 0=G:=⟨_,rfl⟩
    rw[hG]at HAT c2 g0 g1
    clear hG
    have c3:G.tmod 2=0:=by rw[Int.tmod_eq_emod_of_nonneg g0];exact c2
    have HL:=Lib.hid (less_any w.heap.size w.heap.size _ _ (M%D+M%D) D _ h_t h_d (by have:=HTL.out;omega) (by have:=HDl.out;omega))
    rw[decide_eq_false (by have:=HCC.out;omega)]at HL
    refine HL.out.mono ?_
    rintro e' wl ⟨rfl,n',rfl⟩
    clear HL
    obtain⟨w6,hw⟩:∃W,W=w5.drewN n':=⟨_,rfl⟩
    rw[←hw]
    have hB1:Below w5.heap.size w5 w6:=by rw[hw];exact below_drewN (Below.refl _ _) _
    clear hw
    have h_d:=h_d.below hB1
    have h_q:=h_q.below hB1
    have h_t:=h_t.below hB1
    have d2:=d2.below hB1 d2.lt
    have hnx:=hnx.trans (hB1.mono hnx.size)
    have hsz:=hnx.size
    clear hB1
    go_wp2_with fail
    refine(HAT.out _ h_q).mono ?_
    rintro e' wl ⟨rfl,hwl⟩
    rw[hwl]
    clear hwl wl
    go_wp2_with fail
    rw[HU.out]at h_q
    clear h_d h_t
    refine(digits_any 999999999999999 _ (by decide) (by decide)).mono ?_
    rintro e' w7 ⟨v_x,rfl,h_x,hB1⟩
    have h_q:=h_q.below hB1
    have h_x:=h_x.mono hsz
    have d2:=d2.below hB1 d2.lt
    have hnx:=hnx.trans (hB1.mono hnx.size)
    have hsz:=hnx.size
    clear hB1
    go_wp2_with fail
    rw[show (999999999999999:Int).natAbs=999999999999999 from rfl]at h_x
    have hzl:lenD Q≤161:=by rw[←HU.out];have:=HQL.out;omega
    have HZL:=Lib.hid hzl
    have hxl:lenD 999999999999999≤15:=(lenD_iff _ _).2 (by decide)
    have HXL:=Lib.hid hxl
    clear hzl hxl
    by_cases c4:Q≤999999999999999
    ·have HE3:Hid (T=(decOf s Q e,0)):=by show _=_;rw[HE2.out,if_pos (by rw[p15n];omega)]
     have hQ18:lenD Q≤18:=(lenD_iff _ _).2 (Nat.lt_of_lt_of_le (Nat.lt_succ_of_le c4) (by decide))
     have HQ18:=Lib.hid hQ18
     have HC4:=Lib.hid c4
     clear c4 hQ18
     have HL:=Lib.hid (less_any w.heap.size w.heap.size _ _ 999999999999999 Q _ h_x h_q (by have:=HXL.out;omega) (by have:=HZL.out;omega))
     rw[decide_eq_false (by have:=HC4.out;omega)]at HL
     refine HL.out.mono ?_
     rintro e' wl ⟨rfl,n',rfl⟩
     clear HL
     obtain⟨w8,hw⟩:∃W,W=w7.drewN n':=⟨_,rfl⟩
     rw[←hw]
     have hB1:Below w7.heap.size w7 w8:=by rw[hw];exact below_drewN (Below.refl _ _) _
     clear hw
     have h_q:=h_q.below hB1
     have h_x:=h_x.below hB1
     have d2:=d2.below hB1 d2.lt
     have hnx:=hnx.trans (hB1.mono hnx.size)
     have hsz:=hnx.size
     clear hB1
     go_wp2_with fail
     refine(value_any w.heap.size _ Q _ h_q HQ18.out).mono ?_
     rintro e' wl ⟨rfl,rfl⟩
     go_wp2_with fail
     have HLO:=Lib.hid (fun W=>lowest_any Q e W (by have:=HC4.out;omega) e0 c9)
     have hbd:=decOf_bd e HC4.out e0 c9
     obtain⟨⟨P1,P2⟩,hP⟩:∃P,decOf false Q e=P:=⟨_,rfl⟩
     rw[hP]at HLO hbd
     have HP:=Lib.hid hP
     clear hP
     obtain⟨p0,p1⟩:=hbd
     simp only at p0 p1
     refine(HLO.out _).mono ?_
     rintro e' w9 ⟨rfl,hB1⟩
     have d2:=d2.below hB1 d2.lt
     have hnx:=hnx.trans (hB1.mono hnx.size)
     have hsz:=hnx.size
     clear hB1 h_q h_x HLO
     have l2:=d2.lt
     have q0:=d2.c0
     have q1:=d2.c1
     have q2:=d2.frozen 0
     have q3:=d2.frozen 1
     cases s
     ·have HE4:Hid (T=((P1,P2),0)):=by show _=_;rw[HE3.out,HP.out]
      go_wp2_with fail
      refine bodyPost_ret (results_dec_tmp rfl _ _ _ _ _ rfl (((d2.set0 _).set1 _).alloc _)) rfl ?_
      exact⟨by rw[HE4.out];rfl,Below.alloc ((hnx.setCell (by simp) _).setCell (by simp) _) (by simp;exact hsz) _⟩
     ·have HE4:Hid (T=((-P1,P2),0)):=by show _=_;rw[HE3.out,decOf_true,HP.out]
      go_wp2_with fail
      refine bodyPost_ret (results_dec_tmp rfl _ _ _ _ _ rfl (((d2.set0 _).set1 _).alloc _)) rfl ?_
      exact⟨by rw[HE4.out];rfl,Below.alloc ((hnx.setCell (by simp) _).setCell (by simp) _) (by simp;exact hsz) _⟩
    ·have HE3:Hid (T=nearQ s (N*10 ^ 48) B (9-e).toNat (e+1)):=by show _=_;rw[HE2.out,if_neg (by rw[p15n];omega)]
     have HC4:=Lib.hid c4
     clear c4
     have HL:=Lib.hid (less_any w.heap.size w.heap.size _ _ 999999999999999 Q _ h_x h_q (by have:=HXL.out;omega) (by have:=HZL.out;omega))
     rw[decide_eq_true (by have:=HC4.out;omega)]at HL
     refine HL.out.mono ?_
     rintro e' wl ⟨rfl,n',rfl⟩
     clear HL
     obtain⟨w8,hw⟩:∃W,W=w7.drewN n':=⟨_,rfl⟩
     rw[←hw]
     have hB1:Below w7.heap.size w7 w8:=by rw[hw];exact below_drewN (Below.refl _ _) _
     clear hw
     have h_q:=h_q.below hB1
     have h_x:=h_x.below hB1
     have d2:=d2.below hB1 d2.lt
     have hnx:=hnx.trans (hB1.mono hnx.size)
     have hsz:=hnx.size
     clear hB1
     go_wp2_with fail
     go_roundw
     case rel=>exact⟨e+1,rfl,by omega,by omega,by show _=_;rw[HE3.out,show(10-(e+1)).toNat=(9-e).toNat by omega],d2,hnx⟩
     case measure=>first|(simp[intOf];done)|(simp[intOf];omega)
  ·have f0:=d2.frozen 0
   have f1:=d2.frozen 1
   have f2:=d2.c0
   have f3:=d2.c1
   have HE3:Hid (T=((0,0),10)):=by show _=_;rw[HE.out,show(10-e).toNat=0 by omega];rfl
   go_wp2_with fail
   refine bodyPost_ret (results_dec_tmp rfl _ _ _ _ _ rfl ((d2.set0 0).set1 0)) rfl ?_
   exact⟨by rw[HE3.out];rfl,(hnx.setCell (by simp) _).setCell (by simp) _⟩
end Go.Proofs.YtmhfioimgllgeaaGreatDoor
