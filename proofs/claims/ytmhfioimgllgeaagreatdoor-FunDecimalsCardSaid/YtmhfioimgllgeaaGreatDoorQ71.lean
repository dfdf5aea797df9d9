/- The law FunDecimals, walked. (By gendcw.py.) -/
import Derived.Test.YtmhfioimgllgeaaGreatDoorQ01
import Derived.Test.YtmhfioimgllgeaaGreatDoorQ68
import Derived.Test.YtmhfioimgllgeaaGreatDoorQ42
namespace Go.Proofs.YtmhfioimgllgeaaGreatDoor
open Go Go.RowKit Go.Shelf
theorem nearR3 (s:Bool) (D:Nat) (m:Bool):RightP (near s D m).1:=nearF_right s D m 19 (-9) (by omega) (by omega)
theorem divD_rightP (M E M' E':Int):RightP (divD M E M' E').1:=by
 unfold divD
 split
 ·split
  ·exact right_nought
  ·exact nearR3 _ _ _
 ·exact right_nought
theorem powN_right (M E:Int) (n:Nat):RightP (powN M E n).1:=by
 rcases powN_two M E n with ⟨p,e,h⟩|e
 ·rw[e];exact h
 ·rw[e];exact right_nought
theorem powD_right (M E n:Int):RightP (powD M E n).1:=by
 unfold powD invR
 split
 ·split
  ·split
   ·split
    ·exact divD_rightP _ _ _ _
    ·exact right_nought
   ·exact powN_right _ _ _
  ·exact right_nought
 ·exact right_nought
theorem right_small {k:Int} (h0: -9≤k) (h1:k≤9):RightP (k,0):=by
 refine⟨by show -999999999999999≤k;omega,by show k≤999999999999999;omega,by show(-9:Int)≤0;decide,by show(0:Int)≤9;decide,?_⟩
 show(k=0∧(0:Int)=0)∨(k≠0∧(k%10≠0∨(0:Int)=9))
 omega
theorem made_rightP (M E:Int):RightP (madeP M E):=by
 unfold madeP
 split
 ·rename_i h;exact rightB_P.1 h
 ·have h1:=pickI_bd M (n:=1999999999999999) (by decide)
  have h2:=pickI_bd E (n:=19) (by decide)
  exact decOf_right _ (by rw[p15];omega) (by omega) (by omega)
theorem yields_tr1 {a:Act} {o:Oper} {w:World} {b:Bool} (ho:o.op= .build 39 #[(0,.const (.int .i64 3)),(3,.const (.bool b))]):(execOp a.eval o).run Tryz.prog w= .ok (.value (.agg (pcs (trV b)))) w:=yields_tr ho trivial
theorem ofD_rightP (n:Int):RightP (ofD n).1:=by
 rcases h:ofD n with ⟨⟨x,y⟩,er⟩
 show RightP (x,y)
 exact ofD_right h
theorem cmp_self27 (p:Int×Int) (hp:RightP p) (w:World) (hE:Env w):Calls Tryz.prog 27 #[.agg (pcs (numV p)),.agg (pcs (numV p))] w (Gives (.int .i64 0) w):=by
 have hpl:=plain_num hp
 have h:=cmp28_any 2 (numV p) (numV p) _ _ w (rp_plain hpl) (rp_plain hpl) (.inl hpl) (.inl hpl) hE.1
 have e:cmpV (2+2) (numV p) (numV p)=0:=by
  unfold cmpV
  rw[if_pos ⟨right_of_plain 3 hpl,right_of_plain 3 hpl⟩]
  show cmpD p.1 p.2 p.1 p.2=0
  rw[cmpD_Z hp hp,if_neg (Int.lt_irrefl _),if_pos rfl]
 rw[e]at h
 exact h
set_option maxRecDepth 100000 in
set_option maxHeartbeats 16000000 in
theorem law_decimals (aM aE bM bE n:Int) (ha0: -9223372036854775808≤aM) (ha1:aM≤9223372036854775807) (ha2: -9223372036854775808≤aE) (ha3:aE≤9223372036854775807) (hb0: -9223372036854775808≤bM) (hb1:bM≤9223372036854775807) (hb2: -9223372036854775808≤bE) (hb3:bE≤9223372036854775807) (hn0: -9223372036854775808≤n) (hn1:n≤9223372036854775807) (w:World) (hE:Env w):Calls Tryz.prog 10 #[.agg #[.int .i64 aM,.int .i64 aE],.agg #[.int .i64 bM,.int .i64 bE],.int .i64 n] w (Gives (.bool true) w):=by
 have HMA:=Lib.hid (fun W=>made_any aM aE W ha0 ha1 ha2 ha3)
 have HMB:=Lib.hid (fun W=>made_any bM bE W hb0 hb1 hb2 hb3)
 have hx:=made_rightP aM aE
 have hy:=made_rightP bM bE
 obtain⟨x,hxx⟩:∃x,x=madeP aM aE:=⟨_,rfl⟩
 obtain⟨y,hyy⟩:∃y,y=madeP bM bE:=⟨_,rfl⟩
 rw[←hxx]at HMA hx
 rw[←hyy]at HMB hy
 obtain⟨xm,xe⟩:=x
 obtain⟨ym,ye⟩:=y
 have HP:=Lib.hid (fun W=>pick14 n 19 W hn0 hn1 (by decide) (by decide))
 have hpb:=pickI_bd n (n:=19) (by decide)
 obtain⟨i,hi⟩:∃i,i=pickI n 19:=⟨_,rfl⟩
 rw[←hi]at HP hpb
 obtain⟨k,hk⟩:∃k,k=i-9:=⟨_,rfl⟩
 obtain⟨hk1,hk2,hk3,hk4⟩:=small_is (k:=k) (by omega) (by omega)
 have hwk:IntKind.i64.wrap (i-9)=k:=by rw[←hk,IntKind.wrap_i64];omega
 have hkr:RightP (k,0):=by
  exact right_small (by omega) (by omega)
 have xb0:=hx.1
 have xb1:=hx.2.1
 have yb0:=hy.1
 have yb1:=hy.2.1
 simp only at xb0 xb1 yb0 yb1
 have HAD:=Lib.hid (fun W=>add_any xm xe ym ye W (by omega) (by omega) (by omega) (by omega))
 have HMU:=Lib.hid (fun W=>mul_any xm xe ym ye W (by omega) (by omega) (by omega) (by omega))
 have HRO:=Lib.hid (fun W=>round_any xm xe k W (by omega) (by omega))
 have HPO:=Lib.hid (fun W=>pow_any xm xe k W (by omega) (by omega))
 have HTE:=Lib.hid (fun W=>text_any xm xe W (by omega) (by omega))
 have HCM:=Lib.hid (fun W=>cmp_any xm xe ym ye W (by omega) (by omega) (by omega) (by omega))
 have HFL:=Lib.hid (fun W=>floor_any xm xe W (by omega) (by omega))
 have htx:=txtok_num xm xe hx
 have hxp:=plain_num hx
 have hyp:=plain_num hy
 have hkp:=plain_num hkr
 have htp:plainV (txtV (mk (textR xm xe)))=true:=by rw[←txt_back xm xe hx];exact txtT_plain hxp
 have q1:=toldV_plain (k:=(addD xm xe ym ye).2) (addD_right xm xe ym ye)
 have q2:=toldV_plain (k:=(mulD xm xe ym ye).2) (mulD_right xm xe ym ye)
 have q3:=toldV_plain (k:=(roundD xm xe k).2) (roundD_right xm xe k)
 have q4:=toldV_plain (k:=(powD xm xe k).2) (powD_right xm xe k)
 have HSUM:=Lib.hid (show ∀W g,Below w.heap.size w W→Els [numV (xm,xe),numV (ym,ye)] g 0 W→Calls Tryz.prog 20 #[.string ⟨#[83,85,77]⟩,.slice (some ⟨g,0,none⟩) 2 2] W (Gives (.agg (pcs (toldV (addD xm xe ym ye).1 (addD xm xe ym ye).2))) W)from fun W g hW hEl=>call20 _ _ W _ _ 2 2 rfl fun W2 hW2=>by have h:=call_sum2 (numV (xm,xe)) (xm,xe) (ym,ye) hxp rfl hy g 2 (by decide) (by unfold maxLen;omega) W2 (hEl.below hW2) ((hE.below hW).below hW2);rw[sum_two _ _ hx]at h;exact h)
 have HSUX:=Lib.hid (show ∀W g,Below w.heap.size w W→Els [txtV (mk (textR xm xe)),numV (ym,ye)] g 0 W→Calls Tryz.prog 20 #[.string ⟨#[83,85,77]⟩,.slice (some ⟨g,0,none⟩) 2 2] W (Gives (.agg (pcs (toldV (addD xm xe ym ye).1 (addD xm xe ym ye).2))) W)from fun W g hW hEl=>call20 _ _ W _ _ 2 2 rfl fun W2 hW2=>by have h:=call_sum2 (txtV (mk (textR xm xe))) (xm,xe) (ym,ye) htp (num_back xm xe hx) hy g 2 (by decide) (by unfold maxLen;omega) W2 (hEl.below hW2) ((hE.below hW).below hW2);rw[sum_two _ _ hx]at h;exact h)
 have HPRO:=Lib.hid (show ∀W g,Below w.heap.size w W→Els [numV (xm,xe),numV (ym,ye)] g 0 W→Calls Tryz.prog 20 #[.string ⟨#[80,82,79,68,85,67,84]⟩,.slice (some ⟨g,0,none⟩) 2 2] W (Gives (.agg (pcs (toldV (mulD xm xe ym ye).1 (mulD xm xe ym ye).2))) W)from fun W g hW hEl=>call20 _ _ W _ _ 2 2 rfl fun W2 hW2=>by have h:=call_prod (xm,xe) (ym,ye) hx hy g 2 (by decide) (by unfold maxLen;omega) W2 (hEl.below hW2) ((hE.below hW).below hW2);rw[prod_two _ _ hx]at h;exact h)
 have HRND:=Lib.hid (show ∀W g,Below w.heap.size w W→Els [numV (xm,xe),numV (k,0)] g 0 W→Calls Tryz.prog 20 #[.string ⟨#[82,79,85,78,68]⟩,.slice (some ⟨g,0,none⟩) 2 2] W (Gives (.agg (pcs (toldV (roundD xm xe k).1 (roundD xm xe k).2))) W)from fun W g hW hEl=>call20 _ _ W _ _ 2 2 rfl fun W2 hW2=>by have h:=call_rnd (xm,xe) (k,0) hx hkr g 2 (by decide) (by unfold maxLen;omega) W2 (hEl.below hW2) ((hE.below hW).below hW2);have e:roundV [(xm,xe),(k,0)]=toldV (roundD xm xe k).1 (roundD xm xe k).2:=(by show rdV (xm,xe) (k,0)=_;unfold rdV;rw[if_pos hk3,hk2]);rw[e]at h;exact h)
 have HPOW:=Lib.hid (show ∀W g,Below w.heap.size w W→Els [numV (xm,xe),numV (k,0)] g 0 W→Calls Tryz.prog 20 #[.string ⟨#[80,79,87,69,82]⟩,.slice (some ⟨g,0,none⟩) 2 2] W (Gives (.agg (pcs (toldV (powD xm xe k).1 (powD xm xe k).2))) W)from fun W g hW hEl=>call20 _ _ W _ _ 2 2 rfl fun W2 hW2=>by have h:=call_pow (xm,xe) (k,0) hx hkr g 2 (by decide) (by unfold maxLen;omega) W2 (hEl.below hW2) ((hE.below hW).below hW2);have e:powV (xm,xe) (k,0)=toldV (powD xm xe k).1 (powD xm xe k).2:=(by unfold powV;rw[if_pos hk4,hk2]);rw[e]at h;exact h)
 have HMAX:=Lib.hid (show ∀W g,Below w.heap.size w W→Els [numV (xm,xe),numV (ym,ye)] g 0 W→Calls Tryz.prog 20 #[.string ⟨#[77,65,88]⟩,.slice (some ⟨g,0,none⟩) 2 2] W (Gives (.agg (pcs (if cmpD xm xe ym ye<0 then numV (ym,ye)else numV (xm,xe)))) W)from fun W g hW hEl=>call20 _ _ W _ _ 2 2 rfl fun W2 hW2=>by
  have hs:=sort2_is (xm,xe) (ym,ye) hx hy
  simp only at hs
  by_cases hc:cmpD xm xe ym ye<0
  ·rw[if_pos hc]at hs⊢
   exact call_max (xm,xe) (ym,ye) (xm,xe) (ym,ye) hx hy hs g 2 (by decide) (by unfold maxLen;omega) W2 (hEl.below hW2) ((hE.below hW).below hW2)
  ·rw[if_neg hc]at hs⊢
   exact call_max (xm,xe) (ym,ye) (ym,ye) (xm,xe) hx hy hs g 2 (by decide) (by unfold maxLen;omega) W2 (hEl.below hW2) ((hE.below hW).below hW2))
 have HMIN:=Lib.hid (show ∀W g,Below w.heap.size w W→Els [numV (xm,xe),numV (ym,ye)] g 0 W→Calls Tryz.prog 20 #[.string ⟨#[77,73,78]⟩,.slice (some ⟨g,0,none⟩) 2 2] W (Gives (.agg (pcs (if cmpD xm xe ym ye<0 then numV (xm,xe)else numV (ym,ye)))) W)from fun W g hW hEl=>call20 _ _ W _ _ 2 2 rfl fun W2 hW2=>by
  have hs:=sort2_is (xm,xe) (ym,ye) hx hy
  simp only at hs
  by_cases hc:cmpD xm xe ym ye<0
  ·rw[if_pos hc]at hs⊢
   exact call_min (xm,xe) (ym,ye) (xm,xe) (ym,ye) hx hy hs g 2 (by decide) (by unfold maxLen;omega) W2 (hEl.below hW2) ((hE.below hW).below hW2)
  ·rw[if_neg hc]at hs⊢
   exact call_min (xm,xe) (ym,ye) (ym,ye) (xm,xe) hx hy hs g 2 (by decide) (by unfold maxLen;omega) W2 (hEl.below hW2) ((hE.below hW).below hW2))
 have HINT:=Lib.hid (show ∀W g,Below w.heap.size w W→Els [numV (xm,xe)] g 0 W→Calls Tryz.prog 20 #[.string ⟨#[73,78,84]⟩,.slice (some ⟨g,0,none⟩) 1 1] W (Gives (.agg (pcs (numV (floorF xm xe)))) W)from fun W g hW hEl=>call20 _ _ W _ _ 1 1 rfl fun W2 hW2=>call_int (xm,xe) hx g 1 (by decide) (by unfold maxLen;omega) W2 (hEl.below hW2) ((hE.below hW).below hW2))
 have HEXA:=Lib.hid (show ∀W g,Below w.heap.size w W→Els [numV (xm,xe),txtV (mk (textR xm xe))] g 0 W→Calls Tryz.prog 20 #[.string ⟨#[69,88,65,67,84]⟩,.slice (some ⟨g,0,none⟩) 2 2] W (Gives (.agg (pcs (trV true))) W)from fun W g hW hEl=>call20 _ _ W _ _ 2 2 rfl fun W2 hW2=>call_exact xm xe hx g 2 (by decide) (by unfold maxLen;omega) W2 (hEl.below hW2) ((hE.below hW).below hW2))
 have HSA:=Lib.hid (show ∀z,plainV z=true→∀W,Calls Tryz.prog 21 #[.agg (pcs z),.agg (pcs z)] W (Gives (.bool true) W)from fun z hz W=>same26 (at_plain hz) (at_plain hz) rfl)
 have hfb:=floorD_bd xm xe
 have HNU:=Lib.hid (fun W=>num23_any (floorD xm xe).1 W (by omega) (by omega))
 have hff:(floorD xm xe).2=0→floorF xm xe=(ofD (floorD xm xe).1).1:=fun h=>by unfold floorF;rw[if_pos h]
 have hPr:=ofD_rightP (floorD xm xe).1
 obtain⟨P,hP⟩:∃P,P=(ofD (floorD xm xe).1).1:=⟨_,rfl⟩
 rw[←hP]at HNU hff hPr
 have HCC:=Lib.hid (show ∀W,Below w.heap.size w W→Calls Tryz.prog 27 #[.agg (pcs (numV P)),.agg (pcs (numV P))] W (Gives (.int .i64 0) W)from fun W hW=>cmp_self27 P hPr W (hE.below hW))
 obtain⟨fl,hfl⟩:∃f,f=floorD xm xe:=⟨_,rfl⟩
 rw[←hfl]at HFL HNU hff
 obtain⟨fn,fr⟩:=fl
 simp only at HNU hff
 obtain⟨FF,hFF⟩:∃f,f=floorF xm xe:=⟨_,rfl⟩
 rw[←hFF]at HINT hff
 have HFF:=Lib.hid hff
 obtain⟨cq,hcq⟩:∃c,c=cmpD xm xe ym ye:=⟨_,rfl⟩
 rw[←hcq]at HCM HMAX HMIN
 obtain⟨MX,hMX⟩:∃z,z=if cq<0 then numV (ym,ye)else numV (xm,xe):=⟨_,rfl⟩
 obtain⟨MN,hMN⟩:∃z,z=if cq<0 then numV (xm,xe)else numV (ym,ye):=⟨_,rfl⟩
 rw[←hMX]at HMAX
 rw[←hMN]at HMIN
 have HEMX:=Lib.hid (HSA.out MX (by rw[hMX];split<;>assumption))
 have HEMN:=Lib.hid (HSA.out MN (by rw[hMN];split<;>assumption))
 have HMX:=Lib.hid hMX
 have HMN:=Lib.hid hMN
 clear hfb hff hPr hP hfl hFF hcq hMX hMN
 have HK:=Lib.hid (fun W=>num23_any k W (by omega) (by omega))
 rw[hk1]at HK
 unfold TextPost at HTE
 rw[(text_plain hx).1]at HTE
 have HTX:=Lib.hid (fun W=>text24_any (mk (textR xm xe)) W)
 obtain⟨W0,hW0⟩:∃W,W=(w.alloc (.cells #[.int .i64 aM,.int .i64 aE] 34)).alloc (.cells #[.int .i64 bM,.int .i64 bE] 34):=⟨_,rfl⟩
 have d3:World.dec W0 w.heap.size aM aE:=by rw[hW0];exact(World.dec_new w aM aE _ rfl).alloc _
 have d4:World.dec W0 (w.heap.size+1) bM bE:=by rw[hW0];exact World.dec_new _ _ _ _ (by simp)
 have hB0:Below w.heap.size w W0:=by rw[hW0];exact((Below.refl _ w).alloc (Nat.le_refl _) _).alloc (by simp) _
 have HEX:=Lib.hid (examples_any W0 (hE.below hB0))
 obtain⟨A,hA⟩:∃R,R=addD xm xe ym ye:=⟨_,rfl⟩
 rw[←hA]at HAD HSUM HSUX q1
 obtain⟨⟨Am,Ae⟩,Ar⟩:=A
 simp only at HSUM HSUX q1
 obtain⟨VA,hVA⟩:∃z,z=toldV (Am,Ae) Ar:=⟨_,rfl⟩
 have HNA:=Lib.hid (fun W=>number36 (Am,Ae) Ar W)
 simp only at HNA
 rw[←hVA]at HSUM HSUX q1 HNA
 have HEA:=Lib.hid (HSA.out VA q1)
 obtain⟨M,hM⟩:∃R,R=mulD xm xe ym ye:=⟨_,rfl⟩
 rw[←hM]at HMU HPRO q2
 obtain⟨⟨Mm,Me⟩,Mr⟩:=M
 simp only at HPRO q2
 obtain⟨VM,hVM⟩:∃z,z=toldV (Mm,Me) Mr:=⟨_,rfl⟩
 have HNM:=Lib.hid (fun W=>number36 (Mm,Me) Mr W)
 simp only at HNM
 rw[←hVM]at HPRO q2 HNM
 have HEM:=Lib.hid (HSA.out VM q2)
 obtain⟨Q,hQ⟩:∃R,R=roundD xm xe k:=⟨_,rfl⟩
 rw[←hQ]at HRO HRND q3
 obtain⟨⟨Qm,Qe⟩,Qr⟩:=Q
 simp only at HRND q3
 obtain⟨VQ,hVQ⟩:∃z,z=toldV (Qm,Qe) Qr:=⟨_,rfl⟩
 have HNQ:=Lib.hid (fun W=>number36 (Qm,Qe) Qr W)
 simp only at HNQ
 rw[←hVQ]at HRND q3 HNQ
 have HEQ:=Lib.hid (HSA.out VQ q3)
 obtain⟨P,hP⟩:∃R,R=powD xm xe k:=⟨_,rfl⟩
 rw[←hP]at HPO HPOW q4
 obtain⟨⟨Pm,Pe⟩,Pr⟩:=P
 simp only at HPOW q4
 obtain⟨VP,hVP⟩:∃z,z=toldV (Pm,Pe) Pr:=⟨_,rfl⟩
 have HNP:=Lib.hid (fun W=>number36 (Pm,Pe) Pr W)
 simp only at HNP
 rw[←hVP]at HPOW q4 HNP
 have HEP:=Lib.hid (HSA.out VP q4)
 have HET:=Lib.hid (HSA.out (trV true) rfl)
 have HEX1:=Lib.hid (HSA.out (numV (xm,xe)) hxp)
 have HEY1:=Lib.hid (HSA.out (numV (ym,ye)) hyp)
 clear hA hM hQ hP q1 q2 q3 q4 hxx hyy hi hk hk1 hk2 hk3 hk4 htx hxp hyp hkp htp hx hy hkr xb0 xb1 yb0 yb1 HSA ha0 ha1 ha2 ha3 hb0 hb1 hb2 hb3 hn0 hn1 hE hVA hVM hVQ hVP
 obtain⟨hp0,hp1⟩:=hpb
 go_enter Tryz.func10,Tryz.ntmps10
 go_upto_region 1 with fail
 go_simp
 rw[←hW0]
 clear hW0
 go_wp2_with fail
 refine HEX.out.mono ?_
 rintro e w1 ⟨rfl,hB1⟩
 have HD3:=Lib.hid (d3.below hB1 d3.lt)
 have HD4:=Lib.hid (d4.below hB1 d4.lt)
 have hB:=hB0.trans (hB1.mono hB0.size)
 clear d3 d4 hB0 hB1 HEX
 go_upto_region 5 with (first|refine wpList_loadDat rfl rfl rfl rfl (dec_cells HD3.out) ?_|(go_at_call 30;refine(HMA.out _).mono ?_;rintro e z1 ⟨rfl,hb0⟩;(try simp only[decV]))|refine wpList_alloc34 rfl rfl ?_|(refine wpList_storeD rfl rfl rfl rfl (World.dec_new _ 0 0 _ rfl) ?_;intro y1 hny1 hgy1 hzy1))
 have hb:Below w1.heap.size w1 y1:=(hb0.alloc hb0.size (.cells #[.int .i64 0,.int .i64 0] 34)).grown hgy1 (by have:=hb0.size;simp<;>omega) (fun k hk=>by cases hk;exact hb0.size)
 have HD4:=Lib.hid (HD4.out.below hb HD4.out.lt)
 have hB:=hB.trans (hb.mono hB.size)
 have HD8:=Lib.hid hny1
 clear hgy1 hzy1 hb hb0 hny1
 go_upto_region 6 with (first|refine wpList_loadDat rfl rfl rfl rfl (dec_cells HD4.out) ?_|(go_at_call 30;refine(HMB.out _).mono ?_;rintro e z2 ⟨rfl,hb0⟩;(try simp only[decV]))|refine wpList_alloc34 rfl rfl ?_|(refine wpList_storeD rfl rfl rfl rfl (World.dec_new _ 0 0 _ rfl) ?_;intro y2 hny2 hgy2 hzy2))
 have hb:Below y1.heap.size y1 y2:=(hb0.alloc hb0.size (.cells #[.int .i64 0,.int .i64 0] 34)).grown hgy2 (by have:=hb0.size;simp<;>omega) (fun k hk=>by cases hk;exact hb0.size)
 have HD8:=Lib.hid (HD8.out.below hb HD8.out.lt)
 have hB:=hB.trans (hb.mono hB.size)
 have HD9:=Lib.hid hny2
 clear hgy2 hzy2 hb hb0 hny2
 have hb0:=Below.refl y2.heap.size y2
 go_upto_region 7 with (first|refine wpList_loadDat rfl rfl rfl rfl (dec_cells HD8.out) ?_|refine wpList_build_num rfl rfl (by rfl) ?_|refine wpList_alloc34 rfl rfl ?_|(refine wpList_store34 rfl rfl rfl rfl (World.vb_new' _ _ _ rfl) (by rfl) (pcs_one _) ?_;intro y3 hny3 hgy3 hzy3))
 have hb:Below y2.heap.size y2 y3:=(hb0.alloc hb0.size (.cells vz 39)).grown hgy3 (by have:=hb0.size;simp<;>omega) (fun k hk=>by cases hk;exact hb0.size)
 have HD8:=Lib.hid (HD8.out.below hb HD8.out.lt)
 have HD9:=Lib.hid (HD9.out.below hb HD9.out.lt)
 have hB:=hB.trans (hb.mono hB.size)
 have HV10:=Lib.hid hny3
 clear hgy3 hzy3 hb hb0 hny3
 have hb0:=Below.refl y3.heap.size y3
 go_upto_region 8 with (first|refine wpList_loadDat rfl rfl rfl rfl (dec_cells HD9.out) ?_|refine wpList_build_num rfl rfl (by rfl) ?_|refine wpList_alloc34 rfl rfl ?_|(refine wpList_store34 rfl rfl rfl rfl (World.vb_new' _ _ _ rfl) (by rfl) (pcs_one _) ?_;intro y4 hny4 hgy4 hzy4))
 have hb:Below y3.heap.size y3 y4:=(hb0.alloc hb0.size (.cells vz 39)).grown hgy4 (by have:=hb0.size;simp<;>omega) (fun k hk=>by cases hk;exact hb0.size)
 have HD8:=Lib.hid (HD8.out.below hb HD8.out.lt)
 have HD9:=Lib.hid (HD9.out.below hb HD9.out.lt)
 have HV10:=Lib.hid (HV10.out.below hb HV10.out.lt)
 have hB:=hB.trans (hb.mono hB.size)
 have HV11:=Lib.hid hny4
 clear hgy4 hzy4 hb hb0 hny4
 go_upto_region 9 with (go_at_call 14;refine(HP.out _).mono ?_;rintro e zp ⟨rfl,rfl⟩)
 obtain⟨y5,hy5⟩:∃W,W=zp:=⟨_,rfl⟩
 subst hy5
 go_upto_region 10 with (first|refine wpList_loadDat rfl rfl rfl rfl (dec_cells HD8.out) ?_|refine wpList_loadDat rfl rfl rfl rfl (dec_cells HD9.out) ?_|(go_at_call 31;refine(HAD.out _).mono ?_;rintro e z6 ⟨rfl,hb0⟩;(try simp only[decV]))|refine wpList_alloc34 rfl rfl ?_|(refine wpList_storeD rfl rfl rfl rfl (World.dec_new _ 0 0 _ rfl) ?_;intro y6 hny6 hgy6 hzy6))
 have hb:Below y5.heap.size y5 y6:=(hb0.alloc hb0.size (.cells #[.int .i64 0,.int .i64 0] 34)).grown hgy6 (by have:=hb0.size;simp<;>omega) (fun k hk=>by cases hk;exact hb0.size)
 have HD8:=Lib.hid (HD8.out.below hb HD8.out.lt)
 have HD9:=Lib.hid (HD9.out.below hb HD9.out.lt)
 have HV10:=Lib.hid (HV10.out.below hb HV10.out.lt)
 have HV11:=Lib.hid (HV11.out.below hb HV11.out.lt)
 have hB:=hB.trans (hb.mono hB.size)
 have HD13:=Lib.hid hny6
 clear hgy6 hzy6 hb hb0 hny6
 go_upto_region 11 with (first|refine wpList_loadDat rfl rfl rfl rfl (dec_cells HD8.out) ?_|refine wpList_loadDat rfl rfl rfl rfl (dec_cells HD9.out) ?_|(go_at_call 32;refine(HMU.out _).mono ?_;rintro e z7 ⟨rfl,hb0⟩;(try simp only[decV]))|refine wpList_alloc34 rfl rfl ?_|(refine wpList_storeD rfl rfl rfl rfl (World.dec_new _ 0 0 _ rfl) ?_;intro y7 hny7 hgy7 hzy7))
 have hb:Below y6.heap.size y6 y7:=(hb0.alloc hb0.size (.cells #[.int .i64 0,.int .i64 0] 34)).grown hgy7 (by have:=hb0.size;simp<;>omega) (fun k hk=>by cases hk;exact hb0.size)
 have HD8:=Lib.hid (HD8.out.below hb HD8.out.lt)
 have HD9:=Lib.hid (HD9.out.below hb HD9.out.lt)
 have HV10:=Lib.hid (HV10.out.below hb HV10.out.lt)
 have HV11:=Lib.hid (HV11.out.below hb HV11.out.lt)
 have HD13:=Lib.hid (HD13.out.below hb HD13.out.lt)
 have hB:=hB.trans (hb.mono hB.size)
 have HD15:=Lib.hid hny7
 clear hgy7 hzy7 hb hb0 hny7
 go_upto_region 12 with (first|refine wpList_loadDat rfl rfl rfl rfl (dec_cells HD8.out) ?_|(go_at_call 33;refine(HRO.out _).mono ?_;rintro e z8 ⟨rfl,hb0⟩;(try simp only[decV]))|refine wpList_alloc34 rfl rfl ?_|(refine wpList_storeD rfl rfl rfl rfl (World.dec_new _ 0 0 _ rfl) ?_;intro y8 hny8 hgy8 hzy8))
 have hb:Below y7.heap.size y7 y8:=(hb0.alloc hb0.size (.cells #[.int .i64 0,.int .i64 0] 34)).grown hgy8 (by have:=hb0.size;simp<;>omega) (fun k hk=>by cases hk;exact hb0.size)
 have HD8:=Lib.hid (HD8.out.below hb HD8.out.lt)
 have HD9:=Lib.hid (HD9.out.below hb HD9.out.lt)
 have HV10:=Lib.hid (HV10.out.below hb HV10.out.lt)
 have HV11:=Lib.hid (HV11.out.below hb HV11.out.lt)
 have HD13:=Lib.hid (HD13.out.below hb HD13.out.lt)
 have HD15:=Lib.hid (HD15.out.below hb HD15.out.lt)
 have hB:=hB.trans (hb.mono hB.size)
 have HD17:=Lib.hid hny8
 clear hgy8 hzy8 hb hb0 hny8
 go_upto_region 13 with (first|refine wpList_loadDat rfl rfl rfl rfl (dec_cells HD8.out) ?_|(go_at_call 34;refine(HPO.out _).mono ?_;rintro e z9 ⟨rfl,hb0⟩;(try simp only[decV]))|refine wpList_alloc34 rfl rfl ?_|(refine wpList_storeD rfl rfl rfl rfl (World.dec_new _ 0 0 _ rfl) ?_;intro y9 hny9 hgy9 hzy9))
 have hb:Below y8.heap.size y8 y9:=(hb0.alloc hb0.size (.cells #[.int .i64 0,.int .i64 0] 34)).grown hgy9 (by have:=hb0.size;simp<;>omega) (fun k hk=>by cases hk;exact hb0.size)
 have HD8:=Lib.hid (HD8.out.below hb HD8.out.lt)
 have HD9:=Lib.hid (HD9.out.below hb HD9.out.lt)
 have HV10:=Lib.hid (HV10.out.below hb HV10.out.lt)
 have HV11:=Lib.hid (HV11.out.below hb HV11.out.lt)
 have HD13:=Lib.hid (HD13.out.below hb HD13.out.lt)
 have HD15:=Lib.hid (HD15.out.below hb HD15.out.lt)
 have HD17:=Lib.hid (HD17.out.below hb HD17.out.lt)
 have hB:=hB.trans (hb.mono hB.size)
 have HD19:=Lib.hid hny9
 clear hgy9 hzy9 hb hb0 hny9
 go_upto_region 14 with (first|refine wpList_loadDat rfl rfl rfl rfl (dec_cells HD8.out) ?_|(go_at_call 35;refine(HTE.out _).mono ?_;rintro e y10 ⟨rfl,hb⟩))
 have HV10:=Lib.hid (HV10.out.below hb HV10.out.lt)
 have HV11:=Lib.hid (HV11.out.below hb HV11.out.lt)
 have HD13:=Lib.hid (HD13.out.below hb HD13.out.lt)
 have HD15:=Lib.hid (HD15.out.below hb HD15.out.lt)
 have HD17:=Lib.hid (HD17.out.below hb HD17.out.lt)
 have HD19:=Lib.hid (HD19.out.below hb HD19.out.lt)
 have HD8:=Lib.hid (HD8.out.below hb HD8.out.lt)
 have HD9:=Lib.hid (HD9.out.below hb HD9.out.lt)
 have hB:=hB.trans (hb.mono hB.size)
 clear hb
 have HS:=Lib.hid (show ∀W,Below y10.heap.size y10 W→(fun w9=>World.vb w9 y2.heap.size (pcs (numV (xm,xe)))∧World.vb w9 y3.heap.size (pcs (numV (ym,ye)))∧World.dec w9 z6.heap.size Am Ae∧World.dec w9 z7.heap.size Mm Me∧World.dec w9 z8.heap.size Qm Qe∧World.dec w9 z9.heap.size Pm Pe∧World.dec w9 z1.heap.size xm xe∧World.dec w9 z2.heap.size ym ye) W from fun W hW=>⟨HV10.out.below hW HV10.out.lt,HV11.out.below hW HV11.out.lt,HD13.out.below hW HD13.out.lt,HD15.out.below hW HD15.out.lt,HD17.out.below hW HD17.out.lt,HD19.out.below hW HD19.out.lt,HD8.out.below hW HD8.out.lt,HD9.out.below hW HD9.out.lt⟩)
 have HBZ:=Lib.hid (show ∀W,Below y10.heap.size y10 W→Below w.heap.size w W from fun W hW=>hB.trans (hW.mono hB.size))
 clear HD8 HD9 HV10 HV11 HD13 HD15 HD17 HD19 hB
 try simp only[List.append_eq,List.cons_append,List.nil_append]
 have hs:Below y10.heap.size y10 y10.drew:=(Below.refl _ _).drew
 refine wp_region_held_drew (S:=fun w9=>World.vb w9 y2.heap.size (pcs (numV (xm,xe)))∧World.vb w9 y3.heap.size (pcs (numV (ym,ye)))∧World.dec w9 z6.heap.size Am Ae∧World.dec w9 z7.heap.size Mm Me∧World.dec w9 z8.heap.size Qm Qe∧World.dec w9 z9.heap.size Pm Pe∧World.dec w9 z1.heap.size xm xe∧World.dec w9 z2.heap.size ym ye) (by kernel_rfl) (HS.out _ hs) (fun hHeld=> ?_)
 refine tk 0 ⟨some 70,_,_,_,_,_⟩ ?_ hHeld ?_ ?_
 rotate_left
 ·(intro w9 hSw;(try dsimp only at hSw);go_simp)
  all_goals with_reducible rfl
 try simp only[Act.put,List.setIfInBounds_toArray,List.set_cons_zero,List.set_cons_succ]
 refine tk 1 ⟨some 71,_,_,_,_,_⟩ ?_ hHeld ?_ ?_
 rotate_left
 ·(intro w9 hSw;(try dsimp only at hSw);go_simp)
  all_goals with_reducible rfl
 try simp only[Act.put,List.setIfInBounds_toArray,List.set_cons_zero,List.set_cons_succ]
 refine tk 2 ⟨some 72,_,_,_,_,_⟩ ?_ hHeld ?_ ?_
 rotate_left
 ·(intro w9 hSw;(try dsimp only at hSw);go_simp)
  all_goals with_reducible rfl
 try simp only[Act.put,List.setIfInBounds_toArray,List.set_cons_zero,List.set_cons_succ]
 refine tk 3 ⟨some 73,_,_,_,_,_⟩ ?_ hHeld ?_ ?_
 rotate_left
 ·(intro w9 hSw;refine yields34 (x:= .tmp 10) (g:=y2.heap.size) (cs:=pcs (numV (xm,xe))) ?_ ?_ rfl hSw.1<;>rfl)
 try simp only[Act.put,List.setIfInBounds_toArray,List.set_cons_zero,List.set_cons_succ]
 refine tk 4 ⟨some 74,_,_,_,_,_⟩ ?_ hHeld ?_ ?_
 rotate_left
 ·(intro w9 hSw;refine yields34 (x:= .tmp 11) (g:=y3.heap.size) (cs:=pcs (numV (ym,ye))) ?_ ?_ rfl hSw.2.1<;>rfl)
 try simp only[Act.put,List.setIfInBounds_toArray,List.set_cons_zero,List.set_cons_succ]
 refine tk 7 ⟨some 77,_,_,_,_,_⟩ ?_ hHeld ?_ ?_
 rotate_left
 ·(intro w9 hSw;refine yields_dat (x:= .tmp 13) (g:=z6.heap.size) (off:=0) (cs:= #[.int .i64 Am,.int .i64 Ae]) ?_ ?_ rfl (dec_cells hSw.2.2.1)<;>rfl)
 try simp only[Act.put,List.setIfInBounds_toArray,List.set_cons_zero,List.set_cons_succ]
 refine tk 8 ⟨some 78,_,_,_,_,_⟩ ?_ hHeld ?_ ?_
 rotate_left
 ·(intro w9 hSw;(try dsimp only at hSw);go_simp)
  all_goals with_reducible rfl
 try simp only[Act.put,List.setIfInBounds_toArray,List.set_cons_zero,List.set_cons_succ]
 refine wpAnyH_ready (rs:= [5]) (by kernel_rfl) (by simp) ?_
 refine(AllReadyH.cons (o:=⟨some 75,_,_,_,_,_⟩) rfl (fun KK hK=> ?_) AllReadyH.nil)
 ·(try rw[if_pos (by rfl)])
  refine op_bsl2 rfl rfl rfl ?_
  obtain⟨a1,ha1⟩:∃X,X=World.alloc y10.drew (.cells (vsC [(numV (xm,xe)),(numV (ym,ye))]).toArray 39):=⟨_,rfl⟩
  obtain⟨ga1,hga1⟩:∃g,g=(y10.drew).heap.size:=⟨_,rfl⟩
  have hA:Els [(numV (xm,xe)),(numV (ym,ye))] ga1 0 a1:=by rw[ha1,hga1];exact els_new _ _
  have hb:Below (y10.drew).heap.size (y10.drew) a1:=by rw[ha1];exact(Below.refl _ _).alloc (Nat.le_refl _) _
  rw[←ha1,←hga1]
  have hs:=hs.trans (hb.mono hs.size)
  clear hb ha1 hga1
  refine hK.out _ _ (HS.out _ hs) ?_
  clear hK KK hHeld
  intro hHeld
  try simp only[Act.put,List.setIfInBounds_toArray,List.set_cons_zero,List.set_cons_succ]
  refine wpAnyH_ready (rs:= [6]) (by kernel_rfl) (by simp) ?_
  refine(AllReadyH.cons (o:=⟨some 76,_,_,_,_,_⟩) rfl (fun KK hK=> ?_) AllReadyH.nil)
  ·(try rw[if_pos (by rfl)])
   go_simp
   refine(HSUM.out _ _ (HBZ.out _ hs) hA).mono ?_
   rintro e a2 ⟨rfl,hb⟩
   have hs:=hs.trans (hb.mono hs.size)
   clear hb
   refine hK.out _ _ (HS.out _ hs) ?_
   clear hK KK hHeld
   intro hHeld
   try simp only[Act.put,List.setIfInBounds_toArray,List.set_cons_zero,List.set_cons_succ,List.getElem_toArray,List.getElem_cons_zero,List.getElem_cons_succ]
   refine wpAnyH_ready (rs:= [9]) (by kernel_rfl) (by simp) ?_
   refine(AllReadyH.cons (o:=⟨some 79,_,_,_,_,_⟩) rfl (fun KK hK=> ?_) AllReadyH.nil)
   ·(try rw[if_pos (by rfl)])
    go_simp
    refine(HNA.out _).mono ?_
    rintro e a3 ⟨rfl,hb⟩
    have hs:=hs.trans (hb.mono hs.size)
    clear hb
    refine hK.out _ _ (HS.out _ hs) ?_
    clear hK KK hHeld
    intro hHeld
    try simp only[Act.put,List.setIfInBounds_toArray,List.set_cons_zero,List.set_cons_succ,List.getElem_toArray,List.getElem_cons_zero,List.getElem_cons_succ]
    refine wpAnyH_ready (rs:= [10]) (by kernel_rfl) (by simp) ?_
    refine(AllReadyH.cons (o:=⟨some 80,_,_,_,_,_⟩) rfl (fun KK hK=> ?_) AllReadyH.nil)
    ·(try rw[if_pos (by rfl)])
     go_simp
     refine(HEA.out _).mono ?_
     rintro e a4 ⟨rfl,hb⟩
     have hs:=hs.trans (hb.mono hs.size)
     clear hb
     refine hK.out _ _ (HS.out _ hs) ?_
     clear hK KK hHeld
     intro hHeld
     try simp only[Act.put,List.setIfInBounds_toArray,List.set_cons_zero,List.set_cons_succ,List.getElem_toArray,List.getElem_cons_zero,List.getElem_cons_succ]
     refine tk 11 ⟨some 81,_,_,_,_,_⟩ ?_ hHeld ?_ ?_
     rotate_left
     ·(intro w9 hSw;(try dsimp only at hSw);go_simp)
      all_goals with_reducible rfl
     try simp only[Act.put,List.setIfInBounds_toArray,List.set_cons_zero,List.set_cons_succ]
     refine tk 12 ⟨some 82,_,_,_,_,_⟩ ?_ hHeld ?_ ?_
     rotate_left
     ·(intro w9 hSw;(try dsimp only at hSw);go_simp)
      all_goals with_reducible rfl
     try simp only[Act.put,List.setIfInBounds_toArray,List.set_cons_zero,List.set_cons_succ]
     refine tk 13 ⟨some 83,_,_,_,_,_⟩ ?_ hHeld ?_ ?_
     rotate_left
     ·(intro w9 hSw;(try dsimp only at hSw);go_simp)
      all_goals with_reducible rfl
     try simp only[Act.put,List.setIfInBounds_toArray,List.set_cons_zero,List.set_cons_succ]
     refine tk 14 ⟨some 84,_,_,_,_,_⟩ ?_ hHeld ?_ ?_
     rotate_left
     ·(intro w9 hSw;(try dsimp only at hSw);go_simp)
      all_goals with_reducible rfl
     try simp only[Act.put,List.setIfInBounds_toArray,List.set_cons_zero,List.set_cons_succ]
     refine tk 16 ⟨some 86,_,_,_,_,_⟩ ?_ hHeld ?_ ?_
     rotate_left
     ·(intro w9 hSw;refine yields34 (x:= .tmp 11) (g:=y3.heap.size) (cs:=pcs (numV (ym,ye))) ?_ ?_ rfl hSw.2.1<;>rfl)
     try simp only[Act.put,List.setIfInBounds_toArray,List.set_cons_zero,List.set_cons_succ]
     refine tk 19 ⟨some 89,_,_,_,_,_⟩ ?_ hHeld ?_ ?_
     rotate_left
     ·(intro w9 hSw;refine yields_dat (x:= .tmp 13) (g:=z6.heap.size) (off:=0) (cs:= #[.int .i64 Am,.int .i64 Ae]) ?_ ?_ rfl (dec_cells hSw.2.2.1)<;>rfl)
     try simp only[Act.put,List.setIfInBounds_toArray,List.set_cons_zero,List.set_cons_succ]
     refine tk 20 ⟨some 90,_,_,_,_,_⟩ ?_ hHeld ?_ ?_
     rotate_left
     ·(intro w9 hSw;(try dsimp only at hSw);go_simp)
      all_goals with_reducible rfl
     try simp only[Act.put,List.setIfInBounds_toArray,List.set_cons_zero,List.set_cons_succ]
     refine wpAnyH_ready (rs:= [15]) (by kernel_rfl) (by simp) ?_
     refine(AllReadyH.cons (o:=⟨some 85,_,_,_,_,_⟩) rfl (fun KK hK=> ?_) AllReadyH.nil)
     ·(try rw[if_pos (by rfl)])
      go_simp
      refine(HTX.out _).mono ?_
      rintro e a5 ⟨rfl,hb⟩
      have hs:=hs.trans (hb.mono hs.size)
      clear hb
      refine hK.out _ _ (HS.out _ hs) ?_
      clear hK KK hHeld
      intro hHeld
      try simp only[Act.put,List.setIfInBounds_toArray,List.set_cons_zero,List.set_cons_succ,List.getElem_toArray,List.getElem_cons_zero,List.getElem_cons_succ]
      refine wpAnyH_ready (rs:= [17]) (by kernel_rfl) (by simp) ?_
      refine(AllReadyH.cons (o:=⟨some 87,_,_,_,_,_⟩) rfl (fun KK hK=> ?_) AllReadyH.nil)
      ·(try rw[if_pos (by rfl)])
       refine op_bsl2 rfl rfl rfl ?_
       obtain⟨a6,ha6⟩:∃X,X=World.alloc a5 (.cells (vsC [(txtV (mk (textR xm xe))),(numV (ym,ye))]).toArray 39):=⟨_,rfl⟩
       obtain⟨ga6,hga6⟩:∃g,g=(a5).heap.size:=⟨_,rfl⟩
       have hA:Els [(txtV (mk (textR xm xe))),(numV (ym,ye))] ga6 0 a6:=by rw[ha6,hga6];exact els_new _ _
       have hb:Below (a5).heap.size (a5) a6:=by rw[ha6];exact(Below.refl _ _).alloc (Nat.le_refl _) _
       rw[←ha6,←hga6]
       have hs:=hs.trans (hb.mono hs.size)
       clear hb ha6 hga6
       refine hK.out _ _ (HS.out _ hs) ?_
       clear hK KK hHeld
       intro hHeld
       try simp only[Act.put,List.setIfInBounds_toArray,List.set_cons_zero,List.set_cons_succ]
       refine wpAnyH_ready (rs:= [18]) (by kernel_rfl) (by simp) ?_
       refine(AllReadyH.cons (o:=⟨some 88,_,_,_,_,_⟩) rfl (fun KK hK=> ?_) AllReadyH.nil)
       ·(try rw[if_pos (by rfl)])
        go_simp
        refine(HSUX.out _ _ (HBZ.out _ hs) hA).mono ?_
        rintro e a7 ⟨rfl,hb⟩
        have hs:=hs.trans (hb.mono hs.size)
        clear hb
        refine hK.out _ _ (HS.out _ hs) ?_
        clear hK KK hHeld
        intro hHeld
        try simp only[Act.put,List.setIfInBounds_toArray,List.set_cons_zero,List.set_cons_succ,List.getElem_toArray,List.getElem_cons_zero,List.getElem_cons_succ]
        refine wpAnyH_ready (rs:= [21]) (by kernel_rfl) (by simp) ?_
        refine(AllReadyH.cons (o:=⟨some 91,_,_,_,_,_⟩) rfl (fun KK hK=> ?_) AllReadyH.nil)
        ·(try rw[if_pos (by rfl)])
         go_simp
         refine(HNA.out _).mono ?_
         rintro e a8 ⟨rfl,hb⟩
         have hs:=hs.trans (hb.mono hs.size)
         clear hb
         refine hK.out _ _ (HS.out _ hs) ?_
         clear hK KK hHeld
         intro hHeld
         try simp only[Act.put,List.setIfInBounds_toArray,List.set_cons_zero,List.set_cons_succ,List.getElem_toArray,List.getElem_cons_zero,List.getElem_cons_succ]
         refine wpAnyH_ready (rs:= [22]) (by kernel_rfl) (by simp) ?_
         refine(AllReadyH.cons (o:=⟨some 92,_,_,_,_,_⟩) rfl (fun KK hK=> ?_) AllReadyH.nil)
         ·(try rw[if_pos (by rfl)])
          go_simp
          refine(HEA.out _).mono ?_
          rintro e a9 ⟨rfl,hb⟩
          have hs:=hs.trans (hb.mono hs.size)
          clear hb
          refine hK.out _ _ (HS.out _ hs) ?_
          clear hK KK hHeld
          intro hHeld
          try simp only[Act.put,List.setIfInBounds_toArray,List.set_cons_zero,List.set_cons_succ,List.getElem_toArray,List.getElem_cons_zero,List.getElem_cons_succ]
          refine tk 23 ⟨some 93,_,_,_,_,_⟩ ?_ hHeld ?_ ?_
          rotate_left
          ·(intro w9 hSw;(try dsimp only at hSw);go_simp)
           all_goals with_reducible rfl
          try simp only[Act.put,List.setIfInBounds_toArray,List.set_cons_zero,List.set_cons_succ]
          refine tk 24 ⟨some 94,_,_,_,_,_⟩ ?_ hHeld ?_ ?_
          rotate_left
          ·(intro w9 hSw;(try dsimp only at hSw);go_simp)
           all_goals with_reducible rfl
          try simp only[Act.put,List.setIfInBounds_toArray,List.set_cons_zero,List.set_cons_succ]
          refine tk 25 ⟨some 95,_,_,_,_,_⟩ ?_ hHeld ?_ ?_
          rotate_left
          ·(intro w9 hSw;(try dsimp only at hSw);go_simp)
           all_goals with_reducible rfl
          try simp only[Act.put,List.setIfInBounds_toArray,List.set_cons_zero,List.set_cons_succ]
          refine tk 26 ⟨some 96,_,_,_,_,_⟩ ?_ hHeld ?_ ?_
          rotate_left
          ·(intro w9 hSw;refine yields34 (x:= .tmp 10) (g:=y2.heap.size) (cs:=pcs (numV (xm,xe))) ?_ ?_ rfl hSw.1<;>rfl)
          try simp only[Act.put,List.setIfInBounds_toArray,List.set_cons_zero,List.set_cons_succ]
          refine tk 27 ⟨some 97,_,_,_,_,_⟩ ?_ hHeld ?_ ?_
          rotate_left
          ·(intro w9 hSw;refine yields34 (x:= .tmp 11) (g:=y3.heap.size) (cs:=pcs (numV (ym,ye))) ?_ ?_ rfl hSw.2.1<;>rfl)
          try simp only[Act.put,List.setIfInBounds_toArray,List.set_cons_zero,List.set_cons_succ]
          refine tk 30 ⟨some 100,_,_,_,_,_⟩ ?_ hHeld ?_ ?_
          rotate_left
          ·(intro w9 hSw;refine yields_dat (x:= .tmp 15) (g:=z7.heap.size) (off:=0) (cs:= #[.int .i64 Mm,.int .i64 Me]) ?_ ?_ rfl (dec_cells hSw.2.2.2.1)<;>rfl)
          try simp only[Act.put,List.setIfInBounds_toArray,List.set_cons_zero,List.set_cons_succ]
          refine tk 31 ⟨some 101,_,_,_,_,_⟩ ?_ hHeld ?_ ?_
          rotate_left
          ·(intro w9 hSw;(try dsimp only at hSw);go_simp)
           all_goals with_reducible rfl
          try simp only[Act.put,List.setIfInBounds_toArray,List.set_cons_zero,List.set_cons_succ]
          refine wpAnyH_ready (rs:= [28]) (by kernel_rfl) (by simp) ?_
          refine(AllReadyH.cons (o:=⟨some 98,_,_,_,_,_⟩) rfl (fun KK hK=> ?_) AllReadyH.nil)
          ·(try rw[if_pos (by rfl)])
           refine op_bsl2 rfl rfl rfl ?_
           obtain⟨a10,ha10⟩:∃X,X=World.alloc a9 (.cells (vsC [(numV (xm,xe)),(numV (ym,ye))]).toArray 39):=⟨_,rfl⟩
           obtain⟨ga10,hga10⟩:∃g,g=(a9).heap.size:=⟨_,rfl⟩
           have hA:Els [(numV (xm,xe)),(numV (ym,ye))] ga10 0 a10:=by rw[ha10,hga10];exact els_new _ _
           have hb:Below (a9).heap.size (a9) a10:=by rw[ha10];exact(Below.refl _ _).alloc (Nat.le_refl _) _
           rw[←ha10,←hga10]
           have hs:=hs.trans (hb.mono hs.size)
           clear hb ha10 hga10
           refine hK.out _ _ (HS.out _ hs) ?_
           clear hK KK hHeld
           intro hHeld
           try simp only[Act.put,List.setIfInBounds_toArray,List.set_cons_zero,List.set_cons_succ]
           refine wpAnyH_ready (rs:= [29]) (by kernel_rfl) (by simp) ?_
           refine(AllReadyH.cons (o:=⟨some 99,_,_,_,_,_⟩) rfl (fun KK hK=> ?_) AllReadyH.nil)
           ·(try rw[if_pos (by rfl)])
            go_simp
            refine(HPRO.out _ _ (HBZ.out _ hs) hA).mono ?_
            rintro e a11 ⟨rfl,hb⟩
            have hs:=hs.trans (hb.mono hs.size)
            clear hb
            refine hK.out _ _ (HS.out _ hs) ?_
            clear hK KK hHeld
            intro hHeld
            try simp only[Act.put,List.setIfInBounds_toArray,List.set_cons_zero,List.set_cons_succ,List.getElem_toArray,List.getElem_cons_zero,List.getElem_cons_succ]
            refine wpAnyH_ready (rs:= [32]) (by kernel_rfl) (by simp) ?_
            refine(AllReadyH.cons (o:=⟨some 102,_,_,_,_,_⟩) rfl (fun KK hK=> ?_) AllReadyH.nil)
            ·(try rw[if_pos (by rfl)])
             go_simp
             refine(HNM.out _).mono ?_
             rintro e a12 ⟨rfl,hb⟩
             have hs:=hs.trans (hb.mono hs.size)
             clear hb
             refine hK.out _ _ (HS.out _ hs) ?_
             clear hK KK hHeld
             intro hHeld
             try simp only[Act.put,List.setIfInBounds_toArray,List.set_cons_zero,List.set_cons_succ,List.getElem_toArray,List.getElem_cons_zero,List.getElem_cons_succ]
             refine wpAnyH_ready (rs:= [33]) (by kernel_rfl) (by simp) ?_
             refine(AllReadyH.cons (o:=⟨some 103,_,_,_,_,_⟩) rfl (fun KK hK=> ?_) AllReadyH.nil)
             ·(try rw[if_pos (by rfl)])
              go_simp
              refine(HEM.out _).mono ?_
              rintro e a13 ⟨rfl,hb⟩
              have hs:=hs.trans (hb.mono hs.size)
              clear hb
              refine hK.out _ _ (HS.out _ hs) ?_
              clear hK KK hHeld
              intro hHeld
              try simp only[Act.put,List.setIfInBounds_toArray,List.set_cons_zero,List.set_cons_succ,List.getElem_toArray,List.getElem_cons_zero,List.getElem_cons_succ]
              refine tk 34 ⟨some 104,_,_,_,_,_⟩ ?_ hHeld ?_ ?_
              rotate_left
              ·(intro w9 hSw;(try dsimp only at hSw);go_simp)
               all_goals with_reducible rfl
              try simp only[Act.put,List.setIfInBounds_toArray,List.set_cons_zero,List.set_cons_succ]
              refine tk 35 ⟨some 105,_,_,_,_,_⟩ ?_ hHeld ?_ ?_
              rotate_left
              ·(intro w9 hSw;(try dsimp only at hSw);go_simp)
               all_goals with_reducible rfl
              try simp only[Act.put,List.setIfInBounds_toArray,List.set_cons_zero,List.set_cons_succ]
              refine tk 36 ⟨some 106,_,_,_,_,_⟩ ?_ hHeld ?_ ?_
              rotate_left
              ·(intro w9 hSw;(try dsimp only at hSw);go_simp)
               all_goals with_reducible rfl
              try simp only[Act.put,List.setIfInBounds_toArray,List.set_cons_zero,List.set_cons_succ]
              refine tk 37 ⟨some 107,_,_,_,_,_⟩ ?_ hHeld ?_ ?_
              rotate_left
              ·(intro w9 hSw;refine yields34 (x:= .tmp 10) (g:=y2.heap.size) (cs:=pcs (numV (xm,xe))) ?_ ?_ rfl hSw.1<;>rfl)
              try simp only[Act.put,List.setIfInBounds_toArray,List.set_cons_zero,List.set_cons_succ]
              refine tk 38 ⟨some 108,_,_,_,_,_⟩ ?_ hHeld ?_ ?_
              rotate_left
              ·(intro w9 hSw;(try dsimp only at hSw);go_simp)
               all_goals with_reducible rfl
              try simp only[Act.put,List.setIfInBounds_toArray,List.set_cons_zero,List.set_cons_succ]
              refine tk 42 ⟨some 112,_,_,_,_,_⟩ ?_ hHeld ?_ ?_
              rotate_left
              ·(intro w9 hSw;refine yields_dat (x:= .tmp 17) (g:=z8.heap.size) (off:=0) (cs:= #[.int .i64 Qm,.int .i64 Qe]) ?_ ?_ rfl (dec_cells hSw.2.2.2.2.1)<;>rfl)
              try simp only[Act.put,List.setIfInBounds_toArray,List.set_cons_zero,List.set_cons_succ]
              refine tk 43 ⟨some 113,_,_,_,_,_⟩ ?_ hHeld ?_ ?_
              rotate_left
              ·(intro w9 hSw;(try dsimp only at hSw);go_simp)
               all_goals with_reducible rfl
              try simp only[Act.put,List.setIfInBounds_toArray,List.set_cons_zero,List.set_cons_succ]
              refine wpAnyH_ready (rs:= [39]) (by kernel_rfl) (by simp) ?_
              refine(AllReadyH.cons (o:=⟨some 109,_,_,_,_,_⟩) rfl (fun KK hK=> ?_) AllReadyH.nil)
              ·(try rw[if_pos (by rfl)])
               go_simp
               refine(HK.out _).mono ?_
               rintro e a14 ⟨rfl,hb⟩
               have hs:=hs.trans (hb.mono hs.size)
               clear hb
               refine hK.out _ _ (HS.out _ hs) ?_
               clear hK KK hHeld
               intro hHeld
               try simp only[Act.put,List.setIfInBounds_toArray,List.set_cons_zero,List.set_cons_succ,List.getElem_toArray,List.getElem_cons_zero,List.getElem_cons_succ]
               refine wpAnyH_ready (rs:= [40]) (by kernel_rfl) (by simp) ?_
               refine(AllReadyH.cons (o:=⟨some 110,_,_,_,_,_⟩) rfl (fun KK hK=> ?_) AllReadyH.nil)
               ·(try rw[if_pos (by rfl)])
                refine op_bsl2 rfl rfl rfl ?_
                obtain⟨a15,ha15⟩:∃X,X=World.alloc a14 (.cells (vsC [(numV (xm,xe)),(numV (k,0))]).toArray 39):=⟨_,rfl⟩
                obtain⟨ga15,hga15⟩:∃g,g=(a14).heap.size:=⟨_,rfl⟩
                have hA:Els [(numV (xm,xe)),(numV (k,0))] ga15 0 a15:=by rw[ha15,hga15];exact els_new _ _
                have hb:Below (a14).heap.size (a14) a15:=by rw[ha15];exact(Below.refl _ _).alloc (Nat.le_refl _) _
                rw[←ha15,←hga15]
                have hs:=hs.trans (hb.mono hs.size)
                clear hb ha15 hga15
                refine hK.out _ _ (HS.out _ hs) ?_
                clear hK KK hHeld
                intro hHeld
                try simp only[Act.put,List.setIfInBounds_toArray,List.set_cons_zero,List.set_cons_succ]
                refine wpAnyH_ready (rs:= [41]) (by kernel_rfl) (by simp) ?_
                refine(AllReadyH.cons (o:=⟨some 111,_,_,_,_,_⟩) rfl (fun KK hK=> ?_) AllReadyH.nil)
                ·(try rw[if_pos (by rfl)])
                 go_simp
                 refine(HRND.out _ _ (HBZ.out _ hs) hA).mono ?_
                 rintro e a16 ⟨rfl,hb⟩
                 have hs:=hs.trans (hb.mono hs.size)
                 clear hb
                 refine hK.out _ _ (HS.out _ hs) ?_
                 clear hK KK hHeld
                 intro hHeld
                 try simp only[Act.put,List.setIfInBounds_toArray,List.set_cons_zero,List.set_cons_succ,List.getElem_toArray,List.getElem_cons_zero,List.getElem_cons_succ]
                 refine wpAnyH_ready (rs:= [44]) (by kernel_rfl) (by simp) ?_
                 refine(AllReadyH.cons (o:=⟨some 114,_,_,_,_,_⟩) rfl (fun KK hK=> ?_) AllReadyH.nil)
                 ·(try rw[if_pos (by rfl)])
                  go_simp
                  refine(HNQ.out _).mono ?_
                  rintro e a17 ⟨rfl,hb⟩
                  have hs:=hs.trans (hb.mono hs.size)
                  clear hb
                  refine hK.out _ _ (HS.out _ hs) ?_
                  clear hK KK hHeld
                  intro hHeld
                  try simp only[Act.put,List.setIfInBounds_toArray,List.set_cons_zero,List.set_cons_succ,List.getElem_toArray,List.getElem_cons_zero,List.getElem_cons_succ]
                  refine wpAnyH_ready (rs:= [45]) (by kernel_rfl) (by simp) ?_
                  refine(AllReadyH.cons (o:=⟨some 115,_,_,_,_,_⟩) rfl (fun KK hK=> ?_) AllReadyH.nil)
                  ·(try rw[if_pos (by rfl)])
                   go_simp
                   refine(HEQ.out _).mono ?_
                   rintro e a18 ⟨rfl,hb⟩
                   have hs:=hs.trans (hb.mono hs.size)
                   clear hb
                   refine hK.out _ _ (HS.out _ hs) ?_
                   clear hK KK hHeld
                   intro hHeld
                   try simp only[Act.put,List.setIfInBounds_toArray,List.set_cons_zero,List.set_cons_succ,List.getElem_toArray,List.getElem_cons_zero,List.getElem_cons_succ]
                   refine tk 46 ⟨some 116,_,_,_,_,_⟩ ?_ hHeld ?_ ?_
                   rotate_left
                   ·(intro w9 hSw;(try dsimp only at hSw);go_simp)
                    all_goals with_reducible rfl
                   try simp only[Act.put,List.setIfInBounds_toArray,List.set_cons_zero,List.set_cons_succ]
                   refine tk 47 ⟨some 117,_,_,_,_,_⟩ ?_ hHeld ?_ ?_
                   rotate_left
                   ·(intro w9 hSw;(try dsimp only at hSw);go_simp)
                    all_goals with_reducible rfl
                   try simp only[Act.put,List.setIfInBounds_toArray,List.set_cons_zero,List.set_cons_succ]
                   refine tk 48 ⟨some 118,_,_,_,_,_⟩ ?_ hHeld ?_ ?_
                   rotate_left
                   ·(intro w9 hSw;(try dsimp only at hSw);go_simp)
                    all_goals with_reducible rfl
                   try simp only[Act.put,List.setIfInBounds_toArray,List.set_cons_zero,List.set_cons_succ]
                   refine tk 49 ⟨some 119,_,_,_,_,_⟩ ?_ hHeld ?_ ?_
                   rotate_left
                   ·(intro w9 hSw;refine yields34 (x:= .tmp 10) (g:=y2.heap.size) (cs:=pcs (numV (xm,xe))) ?_ ?_ rfl hSw.1<;>rfl)
                   try simp only[Act.put,List.setIfInBounds_toArray,List.set_cons_zero,List.set_cons_succ]
                   refine tk 50 ⟨some 120,_,_,_,_,_⟩ ?_ hHeld ?_ ?_
                   rotate_left
                   ·(intro w9 hSw;(try dsimp only at hSw);go_simp)
                    all_goals with_reducible rfl
                   try simp only[Act.put,List.setIfInBounds_toArray,List.set_cons_zero,List.set_cons_succ]
                   refine tk 54 ⟨some 124,_,_,_,_,_⟩ ?_ hHeld ?_ ?_
                   rotate_left
                   ·(intro w9 hSw;refine yields_dat (x:= .tmp 19) (g:=z9.heap.size) (off:=0) (cs:= #[.int .i64 Pm,.int .i64 Pe]) ?_ ?_ rfl (dec_cells hSw.2.2.2.2.2.1)<;>rfl)
                   try simp only[Act.put,List.setIfInBounds_toArray,List.set_cons_zero,List.set_cons_succ]
                   refine tk 55 ⟨some 125,_,_,_,_,_⟩ ?_ hHeld ?_ ?_
                   rotate_left
                   ·(intro w9 hSw;(try dsimp only at hSw);go_simp)
                    all_goals with_reducible rfl
                   try simp only[Act.put,List.setIfInBounds_toArray,List.set_cons_zero,List.set_cons_succ]
                   refine wpAnyH_ready (rs:= [51]) (by kernel_rfl) (by simp) ?_
                   refine(AllReadyH.cons (o:=⟨some 121,_,_,_,_,_⟩) rfl (fun KK hK=> ?_) AllReadyH.nil)
                   ·(try rw[if_pos (by rfl)])
                    go_simp
                    refine(HK.out _).mono ?_
                    rintro e a19 ⟨rfl,hb⟩
                    have hs:=hs.trans (hb.mono hs.size)
                    clear hb
                    refine hK.out _ _ (HS.out _ hs) ?_
                    clear hK KK hHeld
                    intro hHeld
                    try simp only[Act.put,List.setIfInBounds_toArray,List.set_cons_zero,List.set_cons_succ,List.getElem_toArray,List.getElem_cons_zero,List.getElem_cons_succ]
                    refine wpAnyH_ready (rs:= [52]) (by kernel_rfl) (by simp) ?_
                    refine(AllReadyH.cons (o:=⟨some 122,_,_,_,_,_⟩) rfl (fun KK hK=> ?_) AllReadyH.nil)
                    ·(try rw[if_pos (by rfl)])
                     refine op_bsl2 rfl rfl rfl ?_
                     obtain⟨a20,ha20⟩:∃X,X=World.alloc a19 (.cells (vsC [(numV (xm,xe)),(numV (k,0))]).toArray 39):=⟨_,rfl⟩
                     obtain⟨ga20,hga20⟩:∃g,g=(a19).heap.size:=⟨_,rfl⟩
                     have hA:Els [(numV (xm,xe)),(numV (k,0))] ga20 0 a20:=by rw[ha20,hga20];exact els_new _ _
                     have hb:Below (a19).heap.size (a19) a20:=by rw[ha20];exact(Below.refl _ _).alloc (Nat.le_refl _) _
                     rw[←ha20,←hga20]
                     have hs:=hs.trans (hb.mono hs.size)
                     clear hb ha20 hga20
                     refine hK.out _ _ (HS.out _ hs) ?_
                     clear hK KK hHeld
                     intro hHeld
                     try simp only[Act.put,List.setIfInBounds_toArray,List.set_cons_zero,List.set_cons_succ]
                     refine wpAnyH_ready (rs:= [53]) (by kernel_rfl) (by simp) ?_
                     refine(AllReadyH.cons (o:=⟨some 123,_,_,_,_,_⟩) rfl (fun KK hK=> ?_) AllReadyH.nil)
                     ·(try rw[if_pos (by rfl)])
                      go_simp
                      refine(HPOW.out _ _ (HBZ.out _ hs) hA).mono ?_
                      rintro e a21 ⟨rfl,hb⟩
                      have hs:=hs.trans (hb.mono hs.size)
                      clear hb
                      refine hK.out _ _ (HS.out _ hs) ?_
                      clear hK KK hHeld
                      intro hHeld
                      try simp only[Act.put,List.setIfInBounds_toArray,List.set_cons_zero,List.set_cons_succ,List.getElem_toArray,List.getElem_cons_zero,List.getElem_cons_succ]
                      refine wpAnyH_ready (rs:= [56]) (by kernel_rfl) (by simp) ?_
                      refine(AllReadyH.cons (o:=⟨some 126,_,_,_,_,_⟩) rfl (fun KK hK=> ?_) AllReadyH.nil)
                      ·(try rw[if_pos (by rfl)])
                       go_simp
                       refine(HNP.out _).mono ?_
                       rintro e a22 ⟨rfl,hb⟩
                       have hs:=hs.trans (hb.mono hs.size)
                       clear hb
                       refine hK.out _ _ (HS.out _ hs) ?_
                       clear hK KK hHeld
                       intro hHeld
                       try simp only[Act.put,List.setIfInBounds_toArray,List.set_cons_zero,List.set_cons_succ,List.getElem_toArray,List.getElem_cons_zero,List.getElem_cons_succ]
                       refine wpAnyH_ready (rs:= [57]) (by kernel_rfl) (by simp) ?_
                       refine(AllReadyH.cons (o:=⟨some 127,_,_,_,_,_⟩) rfl (fun KK hK=> ?_) AllReadyH.nil)
                       ·(try rw[if_pos (by rfl)])
                        go_simp
                        refine(HEP.out _).mono ?_
                        rintro e a23 ⟨rfl,hb⟩
                        have hs:=hs.trans (hb.mono hs.size)
                        clear hb
                        refine hK.out _ _ (HS.out _ hs) ?_
                        clear hK KK hHeld
                        intro hHeld
                        try simp only[Act.put,List.setIfInBounds_toArray,List.set_cons_zero,List.set_cons_succ,List.getElem_toArray,List.getElem_cons_zero,List.getElem_cons_succ]
                        refine tk 58 ⟨some 128,_,_,_,_,_⟩ ?_ hHeld ?_ ?_
                        rotate_left
                        ·(intro w9 hSw;(try dsimp only at hSw);go_simp)
                         all_goals with_reducible rfl
                        try simp only[Act.put,List.setIfInBounds_toArray,List.set_cons_zero,List.set_cons_succ]
                        refine tk 59 ⟨some 129,_,_,_,_,_⟩ ?_ hHeld ?_ ?_
                        rotate_left
                        ·(intro w9 hSw;(try dsimp only at hSw);go_simp)
                         all_goals with_reducible rfl
                        try simp only[Act.put,List.setIfInBounds_toArray,List.set_cons_zero,List.set_cons_succ]
                        refine wpAnyH_done (by kernel_rfl) ?_ _
                        try simp only[Act.put,List.setIfInBounds_toArray,List.set_cons_zero,List.set_cons_succ,List.getElem_toArray,List.getElem_cons_zero,List.getElem_cons_succ]
                        have hya:=hs.size
                        go_upto_region 17 with (first|refine wpList_load34 rfl rfl rfl (HS.out _ hs).1 (by rfl) ?_|refine wpList_alloc34 rfl rfl ?_|(refine wpList_store34 rfl rfl rfl rfl (World.vb_new' _ _ _ rfl) (by rfl) (pcs_one _) ?_;intro m1 hnm1 hgm1 hzm1))
                        have hb:Below a23.heap.size a23 m1:=((Below.refl _ a23).alloc (Nat.le_refl _) (.cells vz 39)).grown hgm1 (by simp) (fun k hk=>by cases hk;exact Nat.le_refl _)
                        have hs:=hs.trans (hb.mono hs.size)
                        have HV23:=Lib.hid hnm1
                        have ham:=hnm1.lt
                        obtain⟨b23,hb23⟩:∃b,b=a23.heap.size:=⟨_,rfl⟩
                        rw[←hb23]at HV23 ham hya⊢
                        clear hgm1 hzm1 hb hnm1 hb23
                        go_upto_region 18 with (first|refine wpList_load34 rfl rfl rfl (HS.out _ hs).2.1 (by rfl) ?_|refine wpList_alloc34 rfl rfl ?_|(refine wpList_store34 rfl rfl rfl rfl (World.vb_new' _ _ _ rfl) (by rfl) (pcs_one _) ?_;intro m2 hnm2 hgm2 hzm2))
                        have hb:Below m1.heap.size m1 m2:=((Below.refl _ m1).alloc (Nat.le_refl _) (.cells vz 39)).grown hgm2 (by simp) (fun k hk=>by cases hk;exact Nat.le_refl _)
                        have hs:=hs.trans (hb.mono hs.size)
                        have HV23:=Lib.hid (HV23.out.below hb HV23.out.lt)
                        have HV24:=Lib.hid hnm2
                        have hyb:=Nat.le_trans hya (Nat.le_of_lt ham)
                        obtain⟨b24,hb24⟩:∃b,b=m1.heap.size:=⟨_,rfl⟩
                        rw[←hb24]at HV24 ham hyb⊢
                        clear hgm2 hzm2 hb hnm2 hb24
                        go_upto_if 135 with (first|refine wpList_loadDat rfl rfl rfl rfl (dec_cells (HS.out _ hs).2.2.2.2.2.2.1) ?_|refine wpList_loadDat rfl rfl rfl rfl (dec_cells (HS.out _ hs).2.2.2.2.2.2.2) ?_|(go_at_call 37;refine(HCM.out _).mono ?_;rintro e m3 ⟨rfl,hb⟩))
                        have hs:=hs.trans (hb.mono hs.size)
                        have HV23:=Lib.hid (HV23.out.below hb HV23.out.lt)
                        have HV24:=Lib.hid (HV24.out.below hb HV24.out.lt)
                        clear hb
                        go_cut [136]from 136 to 137 (fun _ wx=>World.vb wx b23 (pcs MX)∧World.vb wx b24 (pcs MN)∧Below y10.heap.size y10 wx)
                        case first=>
                         have hx1:=HMX.out
                         have hx2:=HMN.out
                         by_cases hc:cq<0
                         ·rw[if_pos hc]at hx1 hx2
                          go_upto_region 20 with (first|refine wpList_load34 rfl rfl rfl (HS.out _ hs).2.1 (by rfl) ?_|(refine wpList_store34 rfl rfl rfl rfl HV23.out (by rfl) (pcs_one _) ?_;intro m4 hnm4 hgm4 hzm4))
                          have hs4:=hs.grown hgm4 hs.size (fun k hk=>by cases hk;exact hya)
                          have hv24:=vb_apart HV24.out hgm4 (by intro e;injection e with e;omega)
                          go_wp2_with (first|refine wpList_load34 rfl rfl rfl (HS.out _ hs4).1 (by rfl) ?_|(refine wpList_store34 rfl rfl rfl rfl hv24 (by rfl) (pcs_one _) ?_;intro m5 hnm5 hgm5 hzm5))
                          go_meet
                          exact⟨by rw[hx1];exact vb_apart hnm4 hgm5 (by intro e;injection e with e;omega),by rw[hx2];exact hnm5,hs4.grown hgm5 hs4.size (fun k hk=>by cases hk;exact hyb)⟩
                         ·rw[if_neg hc]at hx1 hx2
                          go_wp2_with fail
                          go_meet
                          exact⟨by rw[hx1];exact HV23.out,by rw[hx2];exact HV24.out,hs⟩
                        case rest=>
                         obtain⟨h23,h24,hs⟩:=hcut
                         clear HV23 HV24 HMX HMN
                         go_upto_region 22 with (first|refine wpList_loadDat rfl rfl rfl rfl (dec_cells (HS.out _ hs).2.2.2.2.2.2.1) ?_|(go_at_call 26;refine(HFL.out _).mono ?_;rintro e m6 ⟨rfl,hb⟩))
                         have hs:=hs.trans (hb.mono hs.size)
                         have h23:=h23.below hb h23.lt
                         have h24:=h24.below hb h24.lt
                         clear hb
                         have HS2:=Lib.hid (show ∀W,Below m6.heap.size m6 W→(fun w9=>World.vb w9 b23 (pcs MX)∧World.vb w9 b24 (pcs MN)∧(fun w9=>World.vb w9 y2.heap.size (pcs (numV (xm,xe)))∧World.vb w9 y3.heap.size (pcs (numV (ym,ye)))∧World.dec w9 z6.heap.size Am Ae∧World.dec w9 z7.heap.size Mm Me∧World.dec w9 z8.heap.size Qm Qe∧World.dec w9 z9.heap.size Pm Pe∧World.dec w9 z1.heap.size xm xe∧World.dec w9 z2.heap.size ym ye) w9) W from fun W hW=>⟨h23.below hW h23.lt,h24.below hW h24.lt,HS.out _ (hs.trans (hW.mono hs.size))⟩)
                         have HBZ:=Lib.hid (show ∀W,Below m6.heap.size m6 W→Below w.heap.size w W from fun W hW=>HBZ.out _ (hs.trans (hW.mono hs.size)))
                         clear HS h23 h24 hs
                         try simp only[List.append_eq,List.cons_append,List.nil_append]
                         by_cases hf:fr=0
                         ·have hff:=HFF.out hf
                          subst hf
                          rw[hff]at HINT
                          clear hff HFF
                          have hs:Below m6.heap.size m6 m6.drew:=(Below.refl _ _).drew
                          refine wp_region_held_drew (S:=fun w9=>World.vb w9 b23 (pcs MX)∧World.vb w9 b24 (pcs MN)∧(fun w9=>World.vb w9 y2.heap.size (pcs (numV (xm,xe)))∧World.vb w9 y3.heap.size (pcs (numV (ym,ye)))∧World.dec w9 z6.heap.size Am Ae∧World.dec w9 z7.heap.size Mm Me∧World.dec w9 z8.heap.size Qm Qe∧World.dec w9 z9.heap.size Pm Pe∧World.dec w9 z1.heap.size xm xe∧World.dec w9 z2.heap.size ym ye) w9) (by kernel_rfl) (HS2.out _ hs) (fun hHeld=> ?_)
                          refine tk 0 ⟨some 143,_,_,_,_,_⟩ ?_ hHeld ?_ ?_
                          rotate_left
                          ·(intro w9 hSw;(try dsimp only at hSw);go_simp)
                           all_goals with_reducible rfl
                          try simp only[Act.put,List.setIfInBounds_toArray,List.set_cons_zero,List.set_cons_succ]
                          refine tk 1 ⟨some 144,_,_,_,_,_⟩ ?_ hHeld ?_ ?_
                          rotate_left
                          ·(intro w9 hSw;(try dsimp only at hSw);go_simp)
                           all_goals with_reducible rfl
                          try simp only[Act.put,List.setIfInBounds_toArray,List.set_cons_zero,List.set_cons_succ]
                          refine tk 2 ⟨some 145,_,_,_,_,_⟩ ?_ hHeld ?_ ?_
                          rotate_left
                          ·(intro w9 hSw;refine yields34 (x:= .tmp 10) (g:=y2.heap.size) (cs:=pcs (numV (xm,xe))) ?_ ?_ rfl hSw.2.2.1<;>rfl)
                          try simp only[Act.put,List.setIfInBounds_toArray,List.set_cons_zero,List.set_cons_succ]
                          refine tk 3 ⟨some 146,_,_,_,_,_⟩ ?_ hHeld ?_ ?_
                          rotate_left
                          ·(intro w9 hSw;refine yields34 (x:= .tmp 11) (g:=y3.heap.size) (cs:=pcs (numV (ym,ye))) ?_ ?_ rfl hSw.2.2.2.1<;>rfl)
                          try simp only[Act.put,List.setIfInBounds_toArray,List.set_cons_zero,List.set_cons_succ]
                          refine tk 6 ⟨some 149,_,_,_,_,_⟩ ?_ hHeld ?_ ?_
                          rotate_left
                          ·(intro w9 hSw;refine yields34 (x:= .tmp 23) (g:=b23) (cs:=pcs MX) ?_ ?_ rfl hSw.1<;>rfl)
                          try simp only[Act.put,List.setIfInBounds_toArray,List.set_cons_zero,List.set_cons_succ]
                          refine wpAnyH_ready (rs:= [4]) (by kernel_rfl) (by simp) ?_
                          refine(AllReadyH.cons (o:=⟨some 147,_,_,_,_,_⟩) rfl (fun KK hK=> ?_) AllReadyH.nil)
                          ·(try rw[if_pos (by rfl)])
                           refine op_bsl2 rfl rfl rfl ?_
                           obtain⟨c1,hc1⟩:∃X,X=World.alloc m6.drew (.cells (vsC [(numV (xm,xe)),(numV (ym,ye))]).toArray 39):=⟨_,rfl⟩
                           obtain⟨gc1,hgc1⟩:∃g,g=(m6.drew).heap.size:=⟨_,rfl⟩
                           have hA:Els [(numV (xm,xe)),(numV (ym,ye))] gc1 0 c1:=by rw[hc1,hgc1];exact els_new _ _
                           have hb:Below (m6.drew).heap.size (m6.drew) c1:=by rw[hc1];exact(Below.refl _ _).alloc (Nat.le_refl _) _
                           rw[←hc1,←hgc1]
                           have hs:=hs.trans (hb.mono hs.size)
                           clear hb hc1 hgc1
                           refine hK.out _ _ (HS2.out _ hs) ?_
                           clear hK KK hHeld
                           intro hHeld
                           try simp only[Act.put,List.setIfInBounds_toArray,List.set_cons_zero,List.set_cons_succ]
                           refine wpAnyH_ready (rs:= [5]) (by kernel_rfl) (by simp) ?_
                           refine(AllReadyH.cons (o:=⟨some 148,_,_,_,_,_⟩) rfl (fun KK hK=> ?_) AllReadyH.nil)
                           ·(try rw[if_pos (by rfl)])
                            go_simp
                            refine(HMAX.out _ _ (HBZ.out _ hs) hA).mono ?_
                            rintro e c2 ⟨rfl,hb⟩
                            have hs:=hs.trans (hb.mono hs.size)
                            clear hb
                            refine hK.out _ _ (HS2.out _ hs) ?_
                            clear hK KK hHeld
                            intro hHeld
                            try simp only[Act.put,List.setIfInBounds_toArray,List.set_cons_zero,List.set_cons_succ,List.getElem_toArray,List.getElem_cons_zero,List.getElem_cons_succ]
                            refine wpAnyH_ready (rs:= [7]) (by kernel_rfl) (by simp) ?_
                            refine(AllReadyH.cons (o:=⟨some 150,_,_,_,_,_⟩) rfl (fun KK hK=> ?_) AllReadyH.nil)
                            ·(try rw[if_pos (by rfl)])
                             go_simp
                             refine(HEMX.out _).mono ?_
                             rintro e c3 ⟨rfl,hb⟩
                             have hs:=hs.trans (hb.mono hs.size)
                             clear hb
                             refine hK.out _ _ (HS2.out _ hs) ?_
                             clear hK KK hHeld
                             intro hHeld
                             try simp only[Act.put,List.setIfInBounds_toArray,List.set_cons_zero,List.set_cons_succ,List.getElem_toArray,List.getElem_cons_zero,List.getElem_cons_succ]
                             refine tk 8 ⟨some 151,_,_,_,_,_⟩ ?_ hHeld ?_ ?_
                             rotate_left
                             ·(intro w9 hSw;(try dsimp only at hSw);go_simp)
                              all_goals with_reducible rfl
                             try simp only[Act.put,List.setIfInBounds_toArray,List.set_cons_zero,List.set_cons_succ]
                             refine tk 9 ⟨some 152,_,_,_,_,_⟩ ?_ hHeld ?_ ?_
                             rotate_left
                             ·(intro w9 hSw;(try dsimp only at hSw);go_simp)
                              all_goals with_reducible rfl
                             try simp only[Act.put,List.setIfInBounds_toArray,List.set_cons_zero,List.set_cons_succ]
                             refine tk 10 ⟨some 153,_,_,_,_,_⟩ ?_ hHeld ?_ ?_
                             rotate_left
                             ·(intro w9 hSw;refine yields34 (x:= .tmp 10) (g:=y2.heap.size) (cs:=pcs (numV (xm,xe))) ?_ ?_ rfl hSw.2.2.1<;>rfl)
                             try simp only[Act.put,List.setIfInBounds_toArray,List.set_cons_zero,List.set_cons_succ]
                             refine tk 11 ⟨some 154,_,_,_,_,_⟩ ?_ hHeld ?_ ?_
                             rotate_left
                             ·(intro w9 hSw;refine yields34 (x:= .tmp 11) (g:=y3.heap.size) (cs:=pcs (numV (ym,ye))) ?_ ?_ rfl hSw.2.2.2.1<;>rfl)
                             try simp only[Act.put,List.setIfInBounds_toArray,List.set_cons_zero,List.set_cons_succ]
                             refine tk 14 ⟨some 157,_,_,_,_,_⟩ ?_ hHeld ?_ ?_
                             rotate_left
                             ·(intro w9 hSw;refine yields34 (x:= .tmp 24) (g:=b24) (cs:=pcs MN) ?_ ?_ rfl hSw.2.1<;>rfl)
                             try simp only[Act.put,List.setIfInBounds_toArray,List.set_cons_zero,List.set_cons_succ]
                             refine wpAnyH_ready (rs:= [12]) (by kernel_rfl) (by simp) ?_
                             refine(AllReadyH.cons (o:=⟨some 155,_,_,_,_,_⟩) rfl (fun KK hK=> ?_) AllReadyH.nil)
                             ·(try rw[if_pos (by rfl)])
                              refine op_bsl2 rfl rfl rfl ?_
                              obtain⟨c4,hc4⟩:∃X,X=World.alloc c3 (.cells (vsC [(numV (xm,xe)),(numV (ym,ye))]).toArray 39):=⟨_,rfl⟩
                              obtain⟨gc4,hgc4⟩:∃g,g=(c3).heap.size:=⟨_,rfl⟩
                              have hA:Els [(numV (xm,xe)),(numV (ym,ye))] gc4 0 c4:=by rw[hc4,hgc4];exact els_new _ _
                              have hb:Below (c3).heap.size (c3) c4:=by rw[hc4];exact(Below.refl _ _).alloc (Nat.le_refl _) _
                              rw[←hc4,←hgc4]
                              have hs:=hs.trans (hb.mono hs.size)
                              clear hb hc4 hgc4
                              refine hK.out _ _ (HS2.out _ hs) ?_
                              clear hK KK hHeld
                              intro hHeld
                              try simp only[Act.put,List.setIfInBounds_toArray,List.set_cons_zero,List.set_cons_succ]
                              refine wpAnyH_ready (rs:= [13]) (by kernel_rfl) (by simp) ?_
                              refine(AllReadyH.cons (o:=⟨some 156,_,_,_,_,_⟩) rfl (fun KK hK=> ?_) AllReadyH.nil)
                              ·(try rw[if_pos (by rfl)])
                               go_simp
                               refine(HMIN.out _ _ (HBZ.out _ hs) hA).mono ?_
                               rintro e c5 ⟨rfl,hb⟩
                               have hs:=hs.trans (hb.mono hs.size)
                               clear hb
                               refine hK.out _ _ (HS2.out _ hs) ?_
                               clear hK KK hHeld
                               intro hHeld
                               try simp only[Act.put,List.setIfInBounds_toArray,List.set_cons_zero,List.set_cons_succ,List.getElem_toArray,List.getElem_cons_zero,List.getElem_cons_succ]
                               refine wpAnyH_ready (rs:= [15]) (by kernel_rfl) (by simp) ?_
                               refine(AllReadyH.cons (o:=⟨some 158,_,_,_,_,_⟩) rfl (fun KK hK=> ?_) AllReadyH.nil)
                               ·(try rw[if_pos (by rfl)])
                                go_simp
                                refine(HEMN.out _).mono ?_
                                rintro e c6 ⟨rfl,hb⟩
                                have hs:=hs.trans (hb.mono hs.size)
                                clear hb
                                refine hK.out _ _ (HS2.out _ hs) ?_
                                clear hK KK hHeld
                                intro hHeld
                                try simp only[Act.put,List.setIfInBounds_toArray,List.set_cons_zero,List.set_cons_succ,List.getElem_toArray,List.getElem_cons_zero,List.getElem_cons_succ]
                                refine tk 16 ⟨some 159,_,_,_,_,_⟩ ?_ hHeld ?_ ?_
                                rotate_left
                                ·(intro w9 hSw;(try dsimp only at hSw);go_simp)
                                 all_goals with_reducible rfl
                                try simp only[Act.put,List.setIfInBounds_toArray,List.set_cons_zero,List.set_cons_succ]
                                refine tk 17 ⟨some 160,_,_,_,_,_⟩ ?_ hHeld ?_ ?_
                                rotate_left
                                ·(intro w9 hSw;(try dsimp only at hSw);go_simp)
                                 all_goals with_reducible rfl
                                try simp only[Act.put,List.setIfInBounds_toArray,List.set_cons_zero,List.set_cons_succ]
                                refine tk 18 ⟨some 161,_,_,_,_,_⟩ ?_ hHeld ?_ ?_
                                rotate_left
                                ·(intro w9 hSw;(try dsimp only at hSw);go_simp)
                                 all_goals with_reducible rfl
                                try simp only[Act.put,List.setIfInBounds_toArray,List.set_cons_zero,List.set_cons_succ]
                                refine tk 19 ⟨some 162,_,_,_,_,_⟩ ?_ hHeld ?_ ?_
                                rotate_left
                                ·(intro w9 hSw;(try dsimp only at hSw);go_simp)
                                 all_goals with_reducible rfl
                                try simp only[Act.put,List.setIfInBounds_toArray,List.set_cons_zero,List.set_cons_succ]
                                refine tk 20 ⟨some 163,_,_,_,_,_⟩ ?_ hHeld ?_ ?_
                                rotate_left
                                ·(intro w9 hSw;(try dsimp only at hSw);go_simp)
                                 all_goals with_reducible rfl
                                try simp only[Act.put,List.setIfInBounds_toArray,List.set_cons_zero,List.set_cons_succ]
                                refine tk 21 ⟨some 164,_,_,_,_,_⟩ ?_ hHeld ?_ ?_
                                rotate_left
                                ·(intro w9 hSw;refine yields34 (x:= .tmp 10) (g:=y2.heap.size) (cs:=pcs (numV (xm,xe))) ?_ ?_ rfl hSw.2.2.1<;>rfl)
                                try simp only[Act.put,List.setIfInBounds_toArray,List.set_cons_zero,List.set_cons_succ]
                                refine tk 24 ⟨some 167,_,_,_,_,_⟩ ?_ hHeld ?_ ?_
                                rotate_left
                                ·(intro w9 hSw;(try dsimp only at hSw);go_simp)
                                 all_goals with_reducible rfl
                                try simp only[Act.put,List.setIfInBounds_toArray,List.set_cons_zero,List.set_cons_succ]
                                refine wpAnyH_ready (rs:= [22]) (by kernel_rfl) (by simp) ?_
                                refine(AllReadyH.cons (o:=⟨some 165,_,_,_,_,_⟩) rfl (fun KK hK=> ?_) AllReadyH.nil)
                                ·(try rw[if_pos (by rfl)])
                                 refine op_bsl1 rfl rfl ?_
                                 obtain⟨c7,hc7⟩:∃X,X=World.alloc c6 (.cells (vsC [(numV (xm,xe))]).toArray 39):=⟨_,rfl⟩
                                 obtain⟨gc7,hgc7⟩:∃g,g=(c6).heap.size:=⟨_,rfl⟩
                                 have hA:Els [(numV (xm,xe))] gc7 0 c7:=by rw[hc7,hgc7];exact els_new _ _
                                 have hb:Below (c6).heap.size (c6) c7:=by rw[hc7];exact(Below.refl _ _).alloc (Nat.le_refl _) _
                                 rw[←hc7,←hgc7]
                                 have hs:=hs.trans (hb.mono hs.size)
                                 clear hb hc7 hgc7
                                 refine hK.out _ _ (HS2.out _ hs) ?_
                                 clear hK KK hHeld
                                 intro hHeld
                                 try simp only[Act.put,List.setIfInBounds_toArray,List.set_cons_zero,List.set_cons_succ]
                                 refine wpAnyH_ready (rs:= [23]) (by kernel_rfl) (by simp) ?_
                                 refine(AllReadyH.cons (o:=⟨some 166,_,_,_,_,_⟩) rfl (fun KK hK=> ?_) AllReadyH.nil)
                                 ·(try rw[if_pos (by rfl)])
                                  go_simp
                                  refine(HINT.out _ _ (HBZ.out _ hs) hA).mono ?_
                                  rintro e c8 ⟨rfl,hb⟩
                                  have hs:=hs.trans (hb.mono hs.size)
                                  clear hb
                                  refine hK.out _ _ (HS2.out _ hs) ?_
                                  clear hK KK hHeld
                                  intro hHeld
                                  try simp only[Act.put,List.setIfInBounds_toArray,List.set_cons_zero,List.set_cons_succ,List.getElem_toArray,List.getElem_cons_zero,List.getElem_cons_succ]
                                  refine wpAnyH_ready (rs:= [25]) (by kernel_rfl) (by simp) ?_
                                  refine(AllReadyH.cons (o:=⟨some 168,_,_,_,_,_⟩) rfl (fun KK hK=> ?_) AllReadyH.nil)
                                  ·(try rw[if_pos (by rfl)])
                                   go_simp
                                   refine(HNU.out _).mono ?_
                                   rintro e c9 ⟨rfl,hb⟩
                                   have hs:=hs.trans (hb.mono hs.size)
                                   clear hb
                                   refine hK.out _ _ (HS2.out _ hs) ?_
                                   clear hK KK hHeld
                                   intro hHeld
                                   try simp only[Act.put,List.setIfInBounds_toArray,List.set_cons_zero,List.set_cons_succ,List.getElem_toArray,List.getElem_cons_zero,List.getElem_cons_succ]
                                   refine wpAnyH_ready (rs:= [26]) (by kernel_rfl) (by simp) ?_
                                   refine(AllReadyH.cons (o:=⟨some 169,_,_,_,_,_⟩) rfl (fun KK hK=> ?_) AllReadyH.nil)
                                   ·(try rw[if_pos (by rfl)])
                                    go_simp
                                    refine(HCC.out _ (HBZ.out _ hs)).mono ?_
                                    rintro e c10 ⟨rfl,hb⟩
                                    have hs:=hs.trans (hb.mono hs.size)
                                    clear hb
                                    refine hK.out _ _ (HS2.out _ hs) ?_
                                    clear hK KK hHeld
                                    intro hHeld
                                    try simp only[Act.put,List.setIfInBounds_toArray,List.set_cons_zero,List.set_cons_succ,List.getElem_toArray,List.getElem_cons_zero,List.getElem_cons_succ]
                                    refine tk 27 ⟨some 170,_,_,_,_,_⟩ ?_ hHeld ?_ ?_
                                    rotate_left
                                    ·(intro w9 hSw;(try dsimp only at hSw);go_simp)
                                     all_goals with_reducible rfl
                                    try simp only[Act.put,List.setIfInBounds_toArray,List.set_cons_zero,List.set_cons_succ]
                                    refine tk 28 ⟨some 171,_,_,_,_,_⟩ ?_ hHeld ?_ ?_
                                    rotate_left
                                    ·(intro w9 hSw;(try dsimp only at hSw);go_simp)
                                     all_goals with_reducible rfl
                                    try simp only[Act.put,List.setIfInBounds_toArray,List.set_cons_zero,List.set_cons_succ]
                                    refine tk 29 ⟨some 172,_,_,_,_,_⟩ ?_ hHeld ?_ ?_
                                    rotate_left
                                    ·(intro w9 hSw;(try dsimp only at hSw);go_simp)
                                     all_goals with_reducible rfl
                                    try simp only[Act.put,List.setIfInBounds_toArray,List.set_cons_zero,List.set_cons_succ]
                                    refine tk 30 ⟨some 173,_,_,_,_,_⟩ ?_ hHeld ?_ ?_
                                    rotate_left
                                    ·(intro w9 hSw;(try dsimp only at hSw);go_simp)
                                     all_goals with_reducible rfl
                                    try simp only[Act.put,List.setIfInBounds_toArray,List.set_cons_zero,List.set_cons_succ]
                                    refine tk 31 ⟨some 174,_,_,_,_,_⟩ ?_ hHeld ?_ ?_
                                    rotate_left
                                    ·(intro w9 hSw;refine yields34 (x:= .tmp 10) (g:=y2.heap.size) (cs:=pcs (numV (xm,xe))) ?_ ?_ rfl hSw.2.2.1<;>rfl)
                                    try simp only[Act.put,List.setIfInBounds_toArray,List.set_cons_zero,List.set_cons_succ]
                                    refine tk 32 ⟨some 175,_,_,_,_,_⟩ ?_ hHeld ?_ ?_
                                    rotate_left
                                    ·(intro w9 hSw;(try dsimp only at hSw);go_simp)
                                     all_goals with_reducible rfl
                                    try simp only[Act.put,List.setIfInBounds_toArray,List.set_cons_zero,List.set_cons_succ]
                                    refine tk 36 ⟨some 179,_,_,_,_,_⟩ ?_ hHeld ?_ ?_
                                    rotate_left
                                    ·(intro w9 hSw;refine yields_tr1 (b:=true) ?_<;>rfl)
                                    try simp only[Act.put,List.setIfInBounds_toArray,List.set_cons_zero,List.set_cons_succ]
                                    refine wpAnyH_ready (rs:= [33]) (by kernel_rfl) (by simp) ?_
                                    refine(AllReadyH.cons (o:=⟨some 176,_,_,_,_,_⟩) rfl (fun KK hK=> ?_) AllReadyH.nil)
                                    ·(try rw[if_pos (by rfl)])
                                     go_simp
                                     refine(HTX.out _).mono ?_
                                     rintro e c11 ⟨rfl,hb⟩
                                     have hs:=hs.trans (hb.mono hs.size)
                                     clear hb
                                     refine hK.out _ _ (HS2.out _ hs) ?_
                                     clear hK KK hHeld
                                     intro hHeld
                                     try simp only[Act.put,List.setIfInBounds_toArray,List.set_cons_zero,List.set_cons_succ,List.getElem_toArray,List.getElem_cons_zero,List.getElem_cons_succ]
                                     refine wpAnyH_ready (rs:= [34]) (by kernel_rfl) (by simp) ?_
                                     refine(AllReadyH.cons (o:=⟨some 177,_,_,_,_,_⟩) rfl (fun KK hK=> ?_) AllReadyH.nil)
                                     ·(try rw[if_pos (by rfl)])
                                      refine op_bsl2 rfl rfl rfl ?_
                                      obtain⟨c12,hc12⟩:∃X,X=World.alloc c11 (.cells (vsC [(numV (xm,xe)),(txtV (mk (textR xm xe)))]).toArray 39):=⟨_,rfl⟩
                                      obtain⟨gc12,hgc12⟩:∃g,g=(c11).heap.size:=⟨_,rfl⟩
                                      have hA:Els [(numV (xm,xe)),(txtV (mk (textR xm xe)))] gc12 0 c12:=by rw[hc12,hgc12];exact els_new _ _
                                      have hb:Below (c11).heap.size (c11) c12:=by rw[hc12];exact(Below.refl _ _).alloc (Nat.le_refl _) _
                                      rw[←hc12,←hgc12]
                                      have hs:=hs.trans (hb.mono hs.size)
                                      clear hb hc12 hgc12
                                      refine hK.out _ _ (HS2.out _ hs) ?_
                                      clear hK KK hHeld
                                      intro hHeld
                                      try simp only[Act.put,List.setIfInBounds_toArray,List.set_cons_zero,List.set_cons_succ]
                                      refine wpAnyH_ready (rs:= [35]) (by kernel_rfl) (by simp) ?_
                                      refine(AllReadyH.cons (o:=⟨some 178,_,_,_,_,_⟩) rfl (fun KK hK=> ?_) AllReadyH.nil)
                                      ·(try rw[if_pos (by rfl)])
                                       go_simp
                                       refine(HEXA.out _ _ (HBZ.out _ hs) hA).mono ?_
                                       rintro e c13 ⟨rfl,hb⟩
                                       have hs:=hs.trans (hb.mono hs.size)
                                       clear hb
                                       refine hK.out _ _ (HS2.out _ hs) ?_
                                       clear hK KK hHeld
                                       intro hHeld
                                       try simp only[Act.put,List.setIfInBounds_toArray,List.set_cons_zero,List.set_cons_succ,List.getElem_toArray,List.getElem_cons_zero,List.getElem_cons_succ]
                                       refine wpAnyH_ready (rs:= [37]) (by kernel_rfl) (by simp) ?_
                                       refine(AllReadyH.cons (o:=⟨some 180,_,_,_,_,_⟩) rfl (fun KK hK=> ?_) AllReadyH.nil)
                                       ·(try rw[if_pos (by rfl)])
                                        go_simp
                                        refine(HET.out _).mono ?_
                                        rintro e c14 ⟨rfl,hb⟩
                                        have hs:=hs.trans (hb.mono hs.size)
                                        clear hb
                                        refine hK.out _ _ (HS2.out _ hs) ?_
                                        clear hK KK hHeld
                                        intro hHeld
                                        try simp only[Act.put,List.setIfInBounds_toArray,List.set_cons_zero,List.set_cons_succ,List.getElem_toArray,List.getElem_cons_zero,List.getElem_cons_succ]
                                        refine tk 38 ⟨some 181,_,_,_,_,_⟩ ?_ hHeld ?_ ?_
                                        rotate_left
                                        ·(intro w9 hSw;(try dsimp only at hSw);go_simp)
                                         all_goals with_reducible rfl
                                        try simp only[Act.put,List.setIfInBounds_toArray,List.set_cons_zero,List.set_cons_succ]
                                        refine tk 39 ⟨some 6,_,_,_,_,_⟩ ?_ hHeld ?_ ?_
                                        rotate_left
                                        ·(intro w9 hSw;(try dsimp only at hSw);go_simp)
                                         all_goals with_reducible rfl
                                        try simp only[Act.put,List.setIfInBounds_toArray,List.set_cons_zero,List.set_cons_succ]
                                        refine wpAnyH_done (by kernel_rfl) ?_ _
                                        try simp only[Act.put,List.setIfInBounds_toArray,List.set_cons_zero,List.set_cons_succ,List.getElem_toArray,List.getElem_cons_zero,List.getElem_cons_succ]
                                        go_wp2_with fail
                                        go_ret
                                        exact⟨rfl,HBZ.out _ hs⟩
                         ·clear HFF HINT
                          have hfb:(fr==0)=false:=by rw[beq_eq_false_iff_ne];exact hf
                          have hfn:(fr != 0)=true:=by rw[bne,hfb];rfl
                          have hs:Below m6.heap.size m6 m6.drew:=(Below.refl _ _).drew
                          refine wp_region_held_drew (S:=fun w9=>World.vb w9 b23 (pcs MX)∧World.vb w9 b24 (pcs MN)∧(fun w9=>World.vb w9 y2.heap.size (pcs (numV (xm,xe)))∧World.vb w9 y3.heap.size (pcs (numV (ym,ye)))∧World.dec w9 z6.heap.size Am Ae∧World.dec w9 z7.heap.size Mm Me∧World.dec w9 z8.heap.size Qm Qe∧World.dec w9 z9.heap.size Pm Pe∧World.dec w9 z1.heap.size xm xe∧World.dec w9 z2.heap.size ym ye) w9) (by kernel_rfl) (HS2.out _ hs) (fun hHeld=> ?_)
                          refine tk 0 ⟨some 143,_,_,_,_,_⟩ ?_ hHeld ?_ ?_
                          rotate_left
                          ·(intro w9 hSw;(try dsimp only at hSw);go_simp)
                           all_goals with_reducible rfl
                          try simp only[Act.put,List.setIfInBounds_toArray,List.set_cons_zero,List.set_cons_succ]
                          refine tk 1 ⟨some 144,_,_,_,_,_⟩ ?_ hHeld ?_ ?_
                          rotate_left
                          ·(intro w9 hSw;(try dsimp only at hSw);go_simp)
                           all_goals with_reducible rfl
                          try simp only[Act.put,List.setIfInBounds_toArray,List.set_cons_zero,List.set_cons_succ]
                          refine tk 2 ⟨some 145,_,_,_,_,_⟩ ?_ hHeld ?_ ?_
                          rotate_left
                          ·(intro w9 hSw;refine yields34 (x:= .tmp 10) (g:=y2.heap.size) (cs:=pcs (numV (xm,xe))) ?_ ?_ rfl hSw.2.2.1<;>rfl)
                          try simp only[Act.put,List.setIfInBounds_toArray,List.set_cons_zero,List.set_cons_succ]
                          refine tk 3 ⟨some 146,_,_,_,_,_⟩ ?_ hHeld ?_ ?_
                          rotate_left
                          ·(intro w9 hSw;refine yields34 (x:= .tmp 11) (g:=y3.heap.size) (cs:=pcs (numV (ym,ye))) ?_ ?_ rfl hSw.2.2.2.1<;>rfl)
                          try simp only[Act.put,List.setIfInBounds_toArray,List.set_cons_zero,List.set_cons_succ]
                          refine tk 6 ⟨some 149,_,_,_,_,_⟩ ?_ hHeld ?_ ?_
                          rotate_left
                          ·(intro w9 hSw;refine yields34 (x:= .tmp 23) (g:=b23) (cs:=pcs MX) ?_ ?_ rfl hSw.1<;>rfl)
                          try simp only[Act.put,List.setIfInBounds_toArray,List.set_cons_zero,List.set_cons_succ]
                          refine wpAnyH_ready (rs:= [4]) (by kernel_rfl) (by simp) ?_
                          refine(AllReadyH.cons (o:=⟨some 147,_,_,_,_,_⟩) rfl (fun KK hK=> ?_) AllReadyH.nil)
                          ·(try rw[if_pos (by rfl)])
                           refine op_bsl2 rfl rfl rfl ?_
                           obtain⟨c1,hc1⟩:∃X,X=World.alloc m6.drew (.cells (vsC [(numV (xm,xe)),(numV (ym,ye))]).toArray 39):=⟨_,rfl⟩
                           obtain⟨gc1,hgc1⟩:∃g,g=(m6.drew).heap.size:=⟨_,rfl⟩
                           have hA:Els [(numV (xm,xe)),(numV (ym,ye))] gc1 0 c1:=by rw[hc1,hgc1];exact els_new _ _
                           have hb:Below (m6.drew).heap.size (m6.drew) c1:=by rw[hc1];exact(Below.refl _ _).alloc (Nat.le_refl _) _
                           rw[←hc1,←hgc1]
                           have hs:=hs.trans (hb.mono hs.size)
                           clear hb hc1 hgc1
                           refine hK.out _ _ (HS2.out _ hs) ?_
                           clear hK KK hHeld
                           intro hHeld
                           try simp only[Act.put,List.setIfInBounds_toArray,List.set_cons_zero,List.set_cons_succ]
                           refine wpAnyH_ready (rs:= [5]) (by kernel_rfl) (by simp) ?_
                           refine(AllReadyH.cons (o:=⟨some 148,_,_,_,_,_⟩) rfl (fun KK hK=> ?_) AllReadyH.nil)
                           ·(try rw[if_pos (by rfl)])
                            go_simp
                            refine(HMAX.out _ _ (HBZ.out _ hs) hA).mono ?_
                            rintro e c2 ⟨rfl,hb⟩
                            have hs:=hs.trans (hb.mono hs.size)
                            clear hb
                            refine hK.out _ _ (HS2.out _ hs) ?_
                            clear hK KK hHeld
                            intro hHeld
                            try simp only[Act.put,List.setIfInBounds_toArray,List.set_cons_zero,List.set_cons_succ,List.getElem_toArray,List.getElem_cons_zero,List.getElem_cons_succ]
                            refine wpAnyH_ready (rs:= [7]) (by kernel_rfl) (by simp) ?_
                            refine(AllReadyH.cons (o:=⟨some 150,_,_,_,_,_⟩) rfl (fun KK hK=> ?_) AllReadyH.nil)
                            ·(try rw[if_pos (by rfl)])
                             go_simp
                             refine(HEMX.out _).mono ?_
                             rintro e c3 ⟨rfl,hb⟩
                             have hs:=hs.trans (hb.mono hs.size)
                             clear hb
                             refine hK.out _ _ (HS2.out _ hs) ?_
                             clear hK KK hHeld
                             intro hHeld
                             try simp only[Act.put,List.setIfInBounds_toArray,List.set_cons_zero,List.set_cons_succ,List.getElem_toArray,List.getElem_cons_zero,List.getElem_cons_succ]
                             refine tk 8 ⟨some 151,_,_,_,_,_⟩ ?_ hHeld ?_ ?_
                             rotate_left
                             ·(intro w9 hSw;(try dsimp only at hSw);go_simp)
                              all_goals with_reducible rfl
                             try simp only[Act.put,List.setIfInBounds_toArray,List.set_cons_zero,List.set_cons_succ]
                             refine tk 9 ⟨some 152,_,_,_,_,_⟩ ?_ hHeld ?_ ?_
                             rotate_left
                             ·(intro w9 hSw;(try dsimp only at hSw);go_simp)
                              all_goals with_reducible rfl
                             try simp only[Act.put,List.setIfInBounds_toArray,List.set_cons_zero,List.set_cons_succ]
                             refine tk 10 ⟨some 153,_,_,_,_,_⟩ ?_ hHeld ?_ ?_
                             rotate_left
                             ·(intro w9 hSw;refine yields34 (x:= .tmp 10) (g:=y2.heap.size) (cs:=pcs (numV (xm,xe))) ?_ ?_ rfl hSw.2.2.1<;>rfl)
                             try simp only[Act.put,List.setIfInBounds_toArray,List.set_cons_zero,List.set_cons_succ]
                             refine tk 11 ⟨some 154,_,_,_,_,_⟩ ?_ hHeld ?_ ?_
                             rotate_left
                             ·(intro w9 hSw;refine yields34 (x:= .tmp 11) (g:=y3.heap.size) (cs:=pcs (numV (ym,ye))) ?_ ?_ rfl hSw.2.2.2.1<;>rfl)
                             try simp only[Act.put,List.setIfInBounds_toArray,List.set_cons_zero,List.set_cons_succ]
                             refine tk 14 ⟨some 157,_,_,_,_,_⟩ ?_ hHeld ?_ ?_
                             rotate_left
                             ·(intro w9 hSw;refine yields34 (x:= .tmp 24) (g:=b24) (cs:=pcs MN) ?_ ?_ rfl hSw.2.1<;>rfl)
                             try simp only[Act.put,List.setIfInBounds_toArray,List.set_cons_zero,List.set_cons_succ]
                             refine wpAnyH_ready (rs:= [12]) (by kernel_rfl) (by simp) ?_
                             refine(AllReadyH.cons (o:=⟨some 155,_,_,_,_,_⟩) rfl (fun KK hK=> ?_) AllReadyH.nil)
                             ·(try rw[if_pos (by rfl)])
                              refine op_bsl2 rfl rfl rfl ?_
                              obtain⟨c4,hc4⟩:∃X,X=World.alloc c3 (.cells (vsC [(numV (xm,xe)),(numV (ym,ye))]).toArray 39):=⟨_,rfl⟩
                              obtain⟨gc4,hgc4⟩:∃g,g=(c3).heap.size:=⟨_,rfl⟩
                              have hA:Els [(numV (xm,xe)),(numV (ym,ye))] gc4 0 c4:=by rw[hc4,hgc4];exact els_new _ _
                              have hb:Below (c3).heap.size (c3) c4:=by rw[hc4];exact(Below.refl _ _).alloc (Nat.le_refl _) _
                              rw[←hc4,←hgc4]
                              have hs:=hs.trans (hb.mono hs.size)
                              clear hb hc4 hgc4
                              refine hK.out _ _ (HS2.out _ hs) ?_
                              clear hK KK hHeld
                              intro hHeld
                              try simp only[Act.put,List.setIfInBounds_toArray,List.set_cons_zero,List.set_cons_succ]
                              refine wpAnyH_ready (rs:= [13]) (by kernel_rfl) (by simp) ?_
                              refine(AllReadyH.cons (o:=⟨some 156,_,_,_,_,_⟩) rfl (fun KK hK=> ?_) AllReadyH.nil)
                              ·(try rw[if_pos (by rfl)])
                               go_simp
                               refine(HMIN.out _ _ (HBZ.out _ hs) hA).mono ?_
                               rintro e c5 ⟨rfl,hb⟩
                               have hs:=hs.trans (hb.mono hs.size)
                               clear hb
                               refine hK.out _ _ (HS2.out _ hs) ?_
                               clear hK KK hHeld
                               intro hHeld
                               try simp only[Act.put,List.setIfInBounds_toArray,List.set_cons_zero,List.set_cons_succ,List.getElem_toArray,List.getElem_cons_zero,List.getElem_cons_succ]
                               refine wpAnyH_ready (rs:= [15]) (by kernel_rfl) (by simp) ?_
                               refine(AllReadyH.cons (o:=⟨some 158,_,_,_,_,_⟩) rfl (fun KK hK=> ?_) AllReadyH.nil)
                               ·(try rw[if_pos (by rfl)])
                                go_simp
                                refine(HEMN.out _).mono ?_
                                rintro e c6 ⟨rfl,hb⟩
                                have hs:=hs.trans (hb.mono hs.size)
                                clear hb
                                refine hK.out _ _ (HS2.out _ hs) ?_
                                clear hK KK hHeld
                                intro hHeld
                                try simp only[Act.put,List.setIfInBounds_toArray,List.set_cons_zero,List.set_cons_succ,List.getElem_toArray,List.getElem_cons_zero,List.getElem_cons_succ]
                                refine tk 16 ⟨some 159,_,_,_,_,_⟩ ?_ hHeld ?_ ?_
                                rotate_left
                                ·(intro w9 hSw;(try dsimp only at hSw);go_simp)
                                 all_goals with_reducible rfl
                                try simp only[Act.put,List.setIfInBounds_toArray,List.set_cons_zero,List.set_cons_succ]
                                refine tk 17 ⟨some 160,_,_,_,_,_⟩ ?_ hHeld ?_ ?_
                                rotate_left
                                ·(intro w9 hSw;(try dsimp only at hSw);go_simp)
                                 all_goals with_reducible rfl
                                try simp only[Act.put,List.setIfInBounds_toArray,List.set_cons_zero,List.set_cons_succ]
                                refine tk 18 ⟨some 161,_,_,_,_,_⟩ ?_ hHeld ?_ ?_
                                rotate_left
                                ·(intro w9 hSw;(try dsimp only at hSw);go_simp)
                                 all_goals with_reducible rfl
                                try simp only[Act.put,List.setIfInBounds_toArray,List.set_cons_zero,List.set_cons_succ]
                                refine tk 19 ⟨some 162,_,_,_,_,_⟩ ?_ hHeld ?_ ?_
                                rotate_left
                                ·(intro w9 hSw;(try dsimp only at hSw);go_simp)
                                 all_goals with_reducible rfl
                                try simp only[Act.put,List.setIfInBounds_toArray,List.set_cons_zero,List.set_cons_succ]
                                try simp only[hf,hfb,hfn,decide_false,Bool.not_false,not_false_eq_true,decide_true,bne,ne_eq]
                                refine tk 20 ⟨some 163,_,_,_,_,_⟩ ?_ hHeld ?_ ?_
                                rotate_left
                                ·(intro w9 hSw;(try dsimp only at hSw);go_simp)
                                 all_goals with_reducible rfl
                                try simp only[Act.put,List.setIfInBounds_toArray,List.set_cons_zero,List.set_cons_succ]
                                refine wpAnyH_take (i:=21) (oi:=⟨some 164,_,_,_,_,_⟩) (v:=undef) rfl (by kernel_rfl) (by kernel_rfl) (by kernel_rfl) (fun _ _ _ h=>h) (Or.inr ⟨by rfl,rfl⟩) hHeld ?_
                                try simp only[Act.put,List.setIfInBounds_toArray,List.set_cons_zero,List.set_cons_succ]
                                refine wpAnyH_take (i:=22) (oi:=⟨some 165,_,_,_,_,_⟩) (v:=undef) rfl (by kernel_rfl) (by kernel_rfl) (by kernel_rfl) (fun _ _ _ h=>h) (Or.inr ⟨by rfl,rfl⟩) hHeld ?_
                                try simp only[Act.put,List.setIfInBounds_toArray,List.set_cons_zero,List.set_cons_succ]
                                refine wpAnyH_take (i:=23) (oi:=⟨some 166,_,_,_,_,_⟩) (v:=undef) rfl (by kernel_rfl) (by kernel_rfl) (by kernel_rfl) (fun _ _ _ h=>h) (Or.inr ⟨by rfl,rfl⟩) hHeld ?_
                                try simp only[Act.put,List.setIfInBounds_toArray,List.set_cons_zero,List.set_cons_succ]
                                refine wpAnyH_take (i:=24) (oi:=⟨some 167,_,_,_,_,_⟩) (v:=undef) rfl (by kernel_rfl) (by kernel_rfl) (by kernel_rfl) (fun _ _ _ h=>h) (Or.inr ⟨by rfl,rfl⟩) hHeld ?_
                                try simp only[Act.put,List.setIfInBounds_toArray,List.set_cons_zero,List.set_cons_succ]
                                refine wpAnyH_take (i:=25) (oi:=⟨some 168,_,_,_,_,_⟩) (v:=undef) rfl (by kernel_rfl) (by kernel_rfl) (by kernel_rfl) (fun _ _ _ h=>h) (Or.inr ⟨by rfl,rfl⟩) hHeld ?_
                                try simp only[Act.put,List.setIfInBounds_toArray,List.set_cons_zero,List.set_cons_succ]
                                refine wpAnyH_take (i:=26) (oi:=⟨some 169,_,_,_,_,_⟩) (v:=undef) rfl (by kernel_rfl) (by kernel_rfl) (by kernel_rfl) (fun _ _ _ h=>h) (Or.inr ⟨by rfl,rfl⟩) hHeld ?_
                                try simp only[Act.put,List.setIfInBounds_toArray,List.set_cons_zero,List.set_cons_succ]
                                refine wpAnyH_take (i:=27) (oi:=⟨some 170,_,_,_,_,_⟩) (v:=undef) rfl (by kernel_rfl) (by kernel_rfl) (by kernel_rfl) (fun _ _ _ h=>h) (Or.inr ⟨by rfl,rfl⟩) hHeld ?_
                                try simp only[Act.put,List.setIfInBounds_toArray,List.set_cons_zero,List.set_cons_succ]
                                refine tk 28 ⟨some 171,_,_,_,_,_⟩ ?_ hHeld ?_ ?_
                                rotate_left
                                ·(intro w9 hSw;(try dsimp only at hSw);go_simp)
                                 all_goals with_reducible rfl
                                try simp only[Act.put,List.setIfInBounds_toArray,List.set_cons_zero,List.set_cons_succ]
                                refine tk 29 ⟨some 172,_,_,_,_,_⟩ ?_ hHeld ?_ ?_
                                rotate_left
                                ·(intro w9 hSw;(try dsimp only at hSw);go_simp)
                                 all_goals with_reducible rfl
                                try simp only[Act.put,List.setIfInBounds_toArray,List.set_cons_zero,List.set_cons_succ]
                                refine tk 30 ⟨some 173,_,_,_,_,_⟩ ?_ hHeld ?_ ?_
                                rotate_left
                                ·(intro w9 hSw;(try dsimp only at hSw);go_simp)
                                 all_goals with_reducible rfl
                                try simp only[Act.put,List.setIfInBounds_toArray,List.set_cons_zero,List.set_cons_succ]
                                refine tk 31 ⟨some 174,_,_,_,_,_⟩ ?_ hHeld ?_ ?_
                                rotate_left
                                ·(intro w9 hSw;refine yields34 (x:= .tmp 10) (g:=y2.heap.size) (cs:=pcs (numV (xm,xe))) ?_ ?_ rfl hSw.2.2.1<;>rfl)
                                try simp only[Act.put,List.setIfInBounds_toArray,List.set_cons_zero,List.set_cons_succ]
                                refine tk 32 ⟨some 175,_,_,_,_,_⟩ ?_ hHeld ?_ ?_
                                rotate_left
                                ·(intro w9 hSw;(try dsimp only at hSw);go_simp)
                                 all_goals with_reducible rfl
                                try simp only[Act.put,List.setIfInBounds_toArray,List.set_cons_zero,List.set_cons_succ]
                                refine tk 36 ⟨some 179,_,_,_,_,_⟩ ?_ hHeld ?_ ?_
                                rotate_left
                                ·(intro w9 hSw;refine yields_tr1 (b:=true) ?_<;>rfl)
                                try simp only[Act.put,List.setIfInBounds_toArray,List.set_cons_zero,List.set_cons_succ]
                                refine wpAnyH_ready (rs:= [33]) (by kernel_rfl) (by simp) ?_
                                refine(AllReadyH.cons (o:=⟨some 176,_,_,_,_,_⟩) rfl (fun KK hK=> ?_) AllReadyH.nil)
                                ·(try rw[if_pos (by rfl)])
                                 go_simp
                                 refine(HTX.out _).mono ?_
                                 rintro e c7 ⟨rfl,hb⟩
                                 have hs:=hs.trans (hb.mono hs.size)
                                 clear hb
                                 refine hK.out _ _ (HS2.out _ hs) ?_
                                 clear hK KK hHeld
                                 intro hHeld
                                 try simp only[Act.put,List.setIfInBounds_toArray,List.set_cons_zero,List.set_cons_succ,List.getElem_toArray,List.getElem_cons_zero,List.getElem_cons_succ]
                                 refine wpAnyH_ready (rs:= [34]) (by kernel_rfl) (by simp) ?_
                                 refine(AllReadyH.cons (o:=⟨some 177,_,_,_,_,_⟩) rfl (fun KK hK=> ?_) AllReadyH.nil)
                                 ·(try rw[if_pos (by rfl)])
                                  refine op_bsl2 rfl rfl rfl ?_
                                  obtain⟨c8,hc8⟩:∃X,X=World.alloc c7 (.cells (vsC [(numV (xm,xe)),(txtV (mk (textR xm xe)))]).toArray 39):=⟨_,rfl⟩
                                  obtain⟨gc8,hgc8⟩:∃g,g=(c7).heap.size:=⟨_,rfl⟩
                                  have hA:Els [(numV (xm,xe)),(txtV (mk (textR xm xe)))] gc8 0 c8:=by rw[hc8,hgc8];exact els_new _ _
                                  have hb:Below (c7).heap.size (c7) c8:=by rw[hc8];exact(Below.refl _ _).alloc (Nat.le_refl _) _
                                  rw[←hc8,←hgc8]
                                  have hs:=hs.trans (hb.mono hs.size)
                                  clear hb hc8 hgc8
                                  refine hK.out _ _ (HS2.out _ hs) ?_
                                  clear hK KK hHeld
                                  intro hHeld
                                  try simp only[Act.put,List.setIfInBounds_toArray,List.set_cons_zero,List.set_cons_succ]
                                  refine wpAnyH_ready (rs:= [35]) (by kernel_rfl) (by simp) ?_
                                  refine(AllReadyH.cons (o:=⟨some 178,_,_,_,_,_⟩) rfl (fun KK hK=> ?_) AllReadyH.nil)
                                  ·(try rw[if_pos (by rfl)])
                                   go_simp
                                   refine(HEXA.out _ _ (HBZ.out _ hs) hA).mono ?_
                                   rintro e c9 ⟨rfl,hb⟩
                                   have hs:=hs.trans (hb.mono hs.size)
                                   clear hb
                                   refine hK.out _ _ (HS2.out _ hs) ?_
                                   clear hK KK hHeld
                                   intro hHeld
                                   try simp only[Act.put,List.setIfInBounds_toArray,List.set_cons_zero,List.set_cons_succ,List.getElem_toArray,List.getElem_cons_zero,List.getElem_cons_succ]
                                   refine wpAnyH_ready (rs:= [37]) (by kernel_rfl) (by simp) ?_
                                   refine(AllReadyH.cons (o:=⟨some 180,_,_,_,_,_⟩) rfl (fun KK hK=> ?_) AllReadyH.nil)
                                   ·(try rw[if_pos (by rfl)])
                                    go_simp
                                    refine(HET.out _).mono ?_
                                    rintro e c10 ⟨rfl,hb⟩
                                    have hs:=hs.trans (hb.mono hs.size)
                                    clear hb
                                    refine hK.out _ _ (HS2.out _ hs) ?_
                                    clear hK KK hHeld
                                    intro hHeld
                                    try simp only[Act.put,List.setIfInBounds_toArray,List.set_cons_zero,List.set_cons_succ,List.getElem_toArray,List.getElem_cons_zero,List.getElem_cons_succ]
                                    refine tk 38 ⟨some 181,_,_,_,_,_⟩ ?_ hHeld ?_ ?_
                                    rotate_left
                                    ·(intro w9 hSw;(try dsimp only at hSw);go_simp)
                                     all_goals with_reducible rfl
                                    try simp only[Act.put,List.setIfInBounds_toArray,List.set_cons_zero,List.set_cons_succ]
                                    refine tk 39 ⟨some 6,_,_,_,_,_⟩ ?_ hHeld ?_ ?_
                                    rotate_left
                                    ·(intro w9 hSw;(try dsimp only at hSw);go_simp)
                                     all_goals with_reducible rfl
                                    try simp only[Act.put,List.setIfInBounds_toArray,List.set_cons_zero,List.set_cons_succ]
                                    refine wpAnyH_done (by kernel_rfl) ?_ _
                                    try simp only[Act.put,List.setIfInBounds_toArray,List.set_cons_zero,List.set_cons_succ,List.getElem_toArray,List.getElem_cons_zero,List.getElem_cons_succ]
                                    go_wp2_with fail
                                    go_ret
                                    exact⟨rfl,HBZ.out _ hs⟩
end Go.Proofs.YtmhfioimgllgeaaGreatDoor
