/- Merged: Val, Thy, Valp, Valn, Vala. -/
import Derived.Test.YtkhohjdakcchdaaGreatDoorBg
import Derived.Test.YtkhohjdakcchdaaGreatDoorRmore
import Derived.Deep.RegionHeld3
import Derived.Test.YtkhohjdakcchdaaGreatDoorBe
import Derived.Test.YtkhohjdakcchdaaGreatDoorBd
import Derived.Test.YtkhohjdakcchdaaGreatDoorCmp
import Derived.Test.YtkhohjdakcchdaaGreatDoorBc
namespace Go.Proofs.YtkhohjdakcchdaaGreatDoor
open Go Go.RowKit Go.Shelf
theorem pick_at (c n q:Int) (w:World) (h0:i64R c) (n0:0<n) (n1:n≤9223372036854775807) (hq:Hid (pickI c n=q)):
 Calls Tryz.prog 24 #[.int .i64 c,.int .i64 n] w fun e w'=>e= .returned (.int .i64 q)∧w'=w:=by
 have h:=pick_any c n w h0.1 h0.2 n0 n1
 rw[hq.out]at h
 exact h
/-- A decimal of raw numbers. -/
def valN (m e:Int):Int×Int:=
 if(ofD (pickI m 2000001-1000000)).2=0∧(divD (ofD (pickI m 2000001-1000000)).1.1 (ofD (pickI m 2000001-1000000)).1.2 1 (pickI e 5)).2=0 then
  (divD (ofD (pickI m 2000001-1000000)).1.1 (ofD (pickI m 2000001-1000000)).1.2 1 (pickI e 5)).1 else(0,0)
def valP (k m e:Int) (s:ByteArray) (b:Bool):Vl:=
 if pickI k 5=1 then numV (valN m e)else if pickI k 5=2 then txtV (pureS s)else if pickI k 5=3 then trV b else if pickI k 5=4 then errV (1+pickI m 9)else {}
abbrev rawC (k m e:Int) (s:ByteArray) (b:Bool):Array Value:= #[.int .i64 k,.int .i64 m,.int .i64 e,.string s,.bool b]
set_option maxRecDepth 100000 in
set_option maxHeartbeats 4000000 in
theorem val_not1 (k m e:Int) (s:ByteArray) (b:Bool) (w:World) (hk:i64R k) (hm:i64R m) (hs:s.size≤9223372036854775807) (h1:pickI k 5≠1):
 Calls Tryz.prog 12 #[.agg (rawC k m e s b)] w (Gives (.agg (pcs (valP k m e s b))) w):=by
 obtain⟨V,hV⟩:∃V,valP k m e s b=V:=⟨_,rfl⟩
 rw[hV]
 obtain⟨q,hq⟩:∃q,pickI k 5=q:=⟨_,rfl⟩
 have hb:=pickI_bd k (n:=5) (by decide)
 unfold valP at hV
 rw[hq]at h1 hb hV
 have Hq:=Lib.hid hq
 clear hq
 rw[if_neg h1]at hV
 rcases(by omega:q=2∨q=3∨q=4∨q=0)with rfl|rfl|rfl|rfl
 ·have HV:Hid (txtV (pureS s)=V):=by show _=_;rw[←hV,if_pos rfl]
  clear hV h1 hb
  go_enter Tryz.func12,Tryz.ntmps12
  go_wp2_with (first|refine wpList_alloc34 rfl rfl ?_|refine wpList_build_txt rfl rfl (by rfl) ?_|(go_at_call 24;refine(pick_at k 5 _ _ hk (by decide) (by decide) Hq).mono ?_;rintro e' w' ⟨rfl,rfl⟩)|(go_at_call 32;refine(pure_any s _ hs).mono ?_;rintro e' w' ⟨rfl,rfl⟩)|(refine wpList_store34 rfl rfl rfl rfl (World.vb_new' _ _ _ (by simp)) (by rfl) (pcs_one _) ?_;intro w1 hn1 hg1 hz1))
  refine bodyPost_ret (results_cell_row rfl _ _ _ 34 _ (0,0) _ rfl hn1 Tryz.underlying34 rfl info34) rfl ?_
  exact⟨by rw[←HV.out],(((Below.refl _ w).alloc (Nat.le_refl _) _).alloc (by simp) _).grown hg1 (by simp;omega) (fun k hk=>by cases hk;simp)⟩
 ·have HV:Hid (trV b=V):=by show _=_;rw[←hV,if_neg (by omega),if_pos rfl]
  clear hV h1 hb
  go_enter Tryz.func12,Tryz.ntmps12
  go_wp2_with (first|refine wpList_alloc34 rfl rfl ?_|refine wpList_build_tr rfl rfl (by rfl) ?_|(go_at_call 24;refine(pick_at k 5 _ _ hk (by decide) (by decide) Hq).mono ?_;rintro e' w' ⟨rfl,rfl⟩)|(refine wpList_store34 rfl rfl rfl rfl (World.vb_new' _ _ _ (by simp)) (by rfl) (pcs_one _) ?_;intro w1 hn1 hg1 hz1))
  refine bodyPost_ret (results_cell_row rfl _ _ _ 34 _ (0,0) _ rfl hn1 Tryz.underlying34 rfl info34) rfl ?_
  exact⟨by rw[←HV.out],(((Below.refl _ w).alloc (Nat.le_refl _) _).alloc (by simp) _).grown hg1 (by simp;omega) (fun k hk=>by cases hk;simp)⟩
 ·have HV:Hid (errV (1+pickI m 9)=V):=by show _=_;rw[←hV,if_neg (by omega),if_neg (by omega),if_pos rfl]
  obtain⟨q2,hq2⟩:∃q,pickI m 9=q:=⟨_,rfl⟩
  obtain⟨b1,b2⟩:=pickI_bd m (n:=9) (by decide)
  rw[hq2]at b1 b2 HV
  have Hq2:=Lib.hid hq2
  clear hV h1 hb hq2
  go_enter Tryz.func12,Tryz.ntmps12
  go_wp2_with (refine wpList_alloc34 rfl rfl ?_)
  refine(pick_at k 5 _ _ hk (by decide) (by decide) Hq).mono ?_
  rintro e' w' ⟨rfl,rfl⟩
  go_wp2_with fail
  refine(pick_at m 9 _ _ hm (by decide) (by decide) Hq2).mono ?_
  rintro e' w' ⟨rfl,rfl⟩
  go_wp2_with (first|refine wpList_build_err rfl rfl (by rfl) ?_|(refine wpList_store34 rfl rfl rfl rfl (World.vb_new' _ _ _ (by simp)) (by rfl) (pcs_one _) ?_;intro w1 hn1 hg1 hz1))
  refine bodyPost_ret (results_cell_row rfl _ _ _ 34 _ (0,0) _ rfl hn1 Tryz.underlying34 rfl info34) rfl ?_
  exact⟨by rw[←HV.out],(((Below.refl _ w).alloc (Nat.le_refl _) _).alloc (by simp) _).grown hg1 (by simp;omega) (fun k hk=>by cases hk;simp)⟩
 ·have HV:Hid ({}=V):=by show _=_;rw[←hV,if_neg (by omega),if_neg (by omega),if_neg (by omega)]
  clear hV h1 hb
  go_enter Tryz.func12,Tryz.ntmps12
  go_wp2_with (first|refine wpList_alloc34 rfl rfl ?_|refine wpList_build_zero rfl rfl ?_|(go_at_call 24;refine(pick_at k 5 _ _ hk (by decide) (by decide) Hq).mono ?_;rintro e' w' ⟨rfl,rfl⟩)|(refine wpList_store34 rfl rfl rfl rfl (World.vb_new' _ _ _ (by simp)) (by rfl) (pcs_one _) ?_;intro w1 hn1 hg1 hz1))
  refine bodyPost_ret (results_cell_row rfl _ _ _ 34 _ (0,0) _ rfl hn1 Tryz.underlying34 rfl info34) rfl ?_
  exact⟨by rw[←HV.out],(((Below.refl _ w).alloc (Nat.le_refl _) _).alloc (by simp) _).grown hg1 (by simp;omega) (fun k hk=>by cases hk;simp)⟩
end Go.Proofs.YtkhohjdakcchdaaGreatDoor
namespace Go.Proofs.YtkhohjdakcchdaaGreatDoor
theorem divD_Q {M E M' E':Int} (h:RightP (M,E)) (h':RightP (M',E')) (hz:M'≠0):divD M E M' E'=nearQ (mulS M M') (M.natAbs*10 ^ divP E E') M'.natAbs 19 (-9):=by
 unfold divD divR
 rw[if_pos ⟨rightB_P.2 h,rightB_P.2 h'⟩,if_neg hz,←near_Q _ _ _ (by omega)]
 unfold quoD
 congr 1
 rw[Bool.eq_iff_iff];simp
theorem nearQ_okz {s:Bool} {N B:Nat} {p:Int×Int} (h:nearQ s N B 19 (-9)=(p,0)):∃e:Int,-9≤e∧e≤9∧rhe N (B*10 ^ (48+e).toNat)<10 ^ 15∧(∀i:Int,-9≤i→i<e→¬rhe N (B*10 ^ (48+i).toNat)<10 ^ 15)∧p=decOf s (rhe N (B*10 ^ (48+e).toNat)) e:=by
 obtain⟨j,h1,h2,h3,h4⟩:=nearQ_ok s N B 19 (-9) p h
 refine⟨-9+j,by omega,by omega,h2,fun i hi hlt=> ?_,h4⟩
 have:=h3 (i+9).toNat (by omega)
 rw[show -9+(((i+9).toNat:Nat):Int)=i by omega]at this
 exact this
end Go.Proofs.YtkhohjdakcchdaaGreatDoor
namespace Go.Proofs.YtkhohjdakcchdaaGreatDoor
open Go.RowKit Go.Shelf
def runD (D hi:Nat):Nat→List UInt8
 |0=> []
 |n+1=>runD D hi n++ [UInt8.ofNat (48+D / 10 ^ (hi-n)%10)]
theorem runD_len (D hi:Nat):∀n,(runD D hi n).length=n
 |0=>rfl
 |n+1=>by rw[runD,List.length_append,runD_len D hi n];rfl
theorem runD_all (D hi:Nat):∀n,(runD D hi n).all (fun c=>digS.contains c)=true
 |0=>rfl
 |n+1=>by
  rw[runD,List.all_append,runD_all D hi n,List.all_cons,(dig_is _ (Nat.mod_lt _ (by decide))).1];rfl
theorem runD_val (D hi:Nat):∀n,n≤hi+1→valW (runD D hi n)=D / 10 ^ (hi+1-n)%10 ^ n
 |0,_=>by rw[runD,valW,Nat.pow_zero,Nat.mod_one]
 |n+1,h=>by
  rw[runD,valW_snoc,runD_val D hi n (by omega),(dig_is _ (Nat.mod_lt _ (by decide))).2,show hi+1-(n+1)=hi-n by omega,show hi+1-n=(hi-n)+1 by omega,Nat.pow_succ 10 (hi-n),←Nat.div_div_eq_div_mul,Nat.pow_succ 10 n,Nat.mul_comm (10 ^ n) 10,Nat.mod_mul]
  omega
theorem wrt_whole (D hi:Nat):∀n,n≤hi-47→wrt D hi n=runD D hi n
 |0,_=>rfl
 |n+1,h=>by
  rw[wrt,runD,wrt_whole D hi n (by omega),chunk,if_neg (by omega)];rfl
theorem wrt_part (D hi:Nat) (h:48≤hi):∀m,m≤48→wrt D hi (hi-47+m)=runD D hi (hi-47)++(if m=0 then []else 46 :: runD D 47 m)
 |0,_=>by rw[if_pos rfl,List.append_nil,Nat.add_zero,wrt_whole D hi _ (Nat.le_refl _)]
 |m+1,hm=>by
  have e0:¬m+1=0:=by omega
  rw[←Nat.add_assoc,wrt,wrt_part D hi h m (by omega),if_neg e0,show hi-(hi-47+m)=47-m by omega,List.append_assoc,runD,chunk]
  by_cases c:m=0
  ·subst c;simp[runD]
  ·have e:¬47-m=47:=by omega
   simp[c,e]
theorem low_mod (D:Nat):∀n,(∀k,k<n→dg D k=0)→D%10 ^ n=0
 |0,_=>by rw[Nat.pow_zero,Nat.mod_one]
 |n+1,h=>by
  have a:=low_mod D n (fun k hk=>h k (by omega))
  have b:=h n (by omega)
  unfold dg at b
  rw[Nat.pow_succ,Nat.mod_mul,a,show D / 10 ^ n%10=0 by omega,Nat.mul_zero]
theorem high_lt (D m:Nat):∀n,m≤n→D<10 ^ n→(∀k,m≤k→k<n→dg D k=0)→D<10 ^ m
 |0,h,hD,_=>by obtain rfl:m=0:=by omega
               exact hD
 |n+1,h,hD,hk=>by
  by_cases e:m=n+1
  ·rw[e];exact hD
  ·refine high_lt D m n (by omega) ?_ (fun k a b=>hk k a (by omega))
   have b:=hk n (by omega) (by omega)
   unfold dg at b
   have c:D / 10 ^ n<10:=Nat.div_lt_of_lt_mul (by rw[←Nat.pow_succ];exact hD)
   have d:D / 10 ^ n=0:=by
    generalize D / 10 ^ n=q at b c⊢
    omega
   rcases Nat.div_eq_zero_iff.1 d with z|z
   ·exact absurd z (Nat.ne_of_gt (pow10_pos n))
   ·exact z
theorem dg_small {D n k:Nat} (h:D<10 ^ n) (hk:n≤k):dg D k=0:=dg_of_lt (Nat.lt_of_lt_of_le h (Nat.pow_le_pow_right (by decide) hk))
theorem hi_small {D:Nat} (h:D<10 ^ 72):hiOf D≤71∧D<10 ^ (hiOf D+1):=by
 obtain⟨a,b,_⟩:=hiOf_eq D
 obtain⟨s1,s2,s3,s4⟩:=topF_spec D 96
 have ht:topF D 96≤71:=by
  rcases Int.lt_or_le (topF D 96) 72 with c|c
  ·omega
  ·exact absurd (dg_small h (by omega)) (s4 (topF D 96).toNat (by omega))
 refine⟨by omega,high_lt D _ 96 (by omega) (Nat.lt_trans h (by decide)) (fun k h1 h2=>s3 k h2 (by omega))⟩
theorem join_val {D hi low:Nat} (hl:low≤48) (hh:48≤hi) (h0:D%10 ^ low=0) (h1:D<10 ^ (hi+1)):readN (runD D hi (hi-47)) (runD D 47 (48-low))=D:=by
 unfold readN
 rw[runD_val D hi _ (by omega),runD_val D 47 _ (by omega),runD_len,show hi+1-(hi-47)=48 by omega,show 47+1-(48-low)=low by omega]
 have e1:D / 10 ^ 48%10 ^ (hi-47)=D / 10 ^ 48:=Nat.mod_eq_of_lt (Nat.div_lt_of_lt_mul (by rw[←Nat.pow_add,show 48+(hi-47)=hi+1 by omega];exact h1))
 rw[e1]
 obtain⟨X,hX⟩:∃X,X=D / 10 ^ low:=⟨_,rfl⟩
 have hD:D=X*10 ^ low:=by
  have:=Nat.div_add_mod D (10 ^ low)
  rw[h0,←hX,Nat.add_zero,Nat.mul_comm]at this;exact this.symm
 obtain⟨j,hj⟩:∃j,j=48-low:=⟨_,rfl⟩
 have e2:D / 10 ^ 48=X / 10 ^ j:=by
  rw[show 48=low+j by omega,Nat.pow_add,←Nat.div_div_eq_div_mul,←hX]
 have e3:(10:Nat) ^ 48=10 ^ j*10 ^ low:=by rw[←Nat.pow_add];congr 1;omega
 rw[e2,e3,←hX,←hj,←Nat.mul_assoc,←Nat.add_mul,Nat.mul_comm (X / 10 ^ j),Nat.div_add_mod,←hD]
def joinL (A P:List UInt8) (m:Bool):List UInt8:=A++(if m=true then 46 :: P else [])
theorem readD_of (sg:Bool) {A P:List UInt8} {m:Bool} (hA:figB A=true) (hP:m=true→figB P=true) (h0:m=false→P= []):readD ((if sg=true then [45]else [])++joinL A P m)=readR sg (readN A P):=by
 obtain⟨a1,a2,a3⟩:=figB_iff hA
 have hcut:Lib.cut (joinL A P m) [46]=(A,P,m):=by
  unfold joinL
  cases m
  ·simp only[Bool.false_eq_true,if_false,List.append_nil];rw[cut_no a3,h0 rfl]
  ·simp only[if_true];exact cut_at a3
 have hpre:Lib.hasPrefix (joinL A P m) [45]=false:=by
  cases A with
  |nil=>exact absurd a1 (by decide)
  |cons c l=>
   rw[List.all_cons,Bool.and_eq_true]at a3
   have hb:=isDig_bd a3.1
   unfold joinL
   rw[List.cons_append,prefix_one,beq_eq_false_iff_ne]
   exact fun e=>by rw[←e]at hb;exact absurd hb.1 (by decide)
 have hs:readS ((if sg=true then [45]else [])++joinL A P m)=sg∧Lib.trimPrefix ((if sg=true then [45]else [])++joinL A P m) [45]=joinL A P m:=by
  cases sg
  ·simp only[Bool.false_eq_true,if_false,List.nil_append]
   unfold readS Lib.trimPrefix
   rw[hpre];exact⟨rfl,rfl⟩
  ·simp only[if_true,List.singleton_append]
   unfold readS Lib.trimPrefix
   rw[prefix_one];exact⟨rfl,rfl⟩
 have hw:readW ((if sg=true then [45]else [])++joinL A P m)=(A,P,m):=by unfold readW;rw[hs.2,hcut]
 unfold readD
 rw[hs.1,hw,if_pos ⟨hA,hP⟩]
theorem readD_minus (l:List UInt8):readD (48 :: 45 :: l)=((0,0),12):=by
 have hp:Lib.trimPrefix (48 :: 45 :: l) [45]=48 :: 45 :: l:=by unfold Lib.trimPrefix;rw[prefix_one];rfl
 have hf:figB (readW (48 :: 45 :: l)).1=false:=by
  unfold readW;rw[hp]
  have hi:Lib.index (48 :: 45 :: l) [46]= -1∨∃k:Nat,Lib.index (48 :: 45 :: l) [46]=(k+2:Nat):=by
   have h1:([46]:List UInt8).isPrefixOf (48 :: 45 :: l)=false:=by simp[List.isPrefixOf]
   have h2:([46]:List UInt8).isPrefixOf (45 :: l)=false:=by simp[List.isPrefixOf]
   rw[Lib.index,h1,Lib.index,h2]
   have:=Lib.index_ge l [46]
   by_cases c:Lib.index l [46]= -1
   ·left;rw[c];rfl
   ·right
    refine⟨(Lib.index l [46]).toNat,?_⟩
    have e1:(Lib.index l [46]== -1)=false:=by simpa using c
    have e2:(Lib.index l [46]+1== -1)=false:=by rw[beq_eq_false_iff_ne];omega
    simp only[e1,e2,Bool.false_eq_true,if_false];omega
  unfold Lib.cut figB
  rcases hi with h|⟨k,h⟩
  ·rw[h];simp[digS]
  ·rw[h,if_pos (by omega),show((k+2:Nat):Int).toNat=k+2 by omega];simp[digS]
 unfold readD
 rw[if_neg (by rw[hf];simp)]
theorem sameD_self (D:Nat):sameD D D=true:=by unfold sameD;simp
theorem read_right {x y:Int} (h:RightP (x,y)):readR (decide (x<0)) (layD x y)=((x,y),0):=by
 have hq:x.natAbs<10 ^ 15:=by rw[p15];have:=h.1;have:=h.2.1;omega
 have hn:near (decide (x<0)) (layD x y) false=((x,y),0):=by
  have e:=near_exact (s:=decide (x<0)) (D:=layD x y) (q:=x.natAbs) (E:=y) hq h.2.2.1 h.2.2.2.1 rfl
  rw[e];exact congrArg (fun p=>(p,(0:Int))) (decOf_id h)
 exact readR_yes hn (sameD_self _)
theorem shown_parts {x y:Int} (h:RightP (x,y)):∃A P m,textR x y=(if decide (x<0)=true then [45]else [])++joinL A P m∧figB A=true∧A.length≤24∧(m=true→figB P=true)∧(m=false→P= [])∧readN A P=layD x y:=by
 have hD:=layD_lt (rightB_P.2 h)
 obtain⟨h1,h2⟩:=hi_small hD
 obtain⟨_,_,h3⟩:=hiOf_eq (layD x y)
 have hl:lowOf (layD x y)≤48:=lowK_le _ 48
 have hz:∀k,k<39→dg (layD x y) k=0:=by
  intro k hk
  unfold layD
  refine dg_shift_low _ _ _ ?_
  have:=h.2.2.1
  simp only at this
  omega
 have hl2:39≤lowOf (layD x y):=lowK_ge _ hz 48
 have hmod:layD x y%10 ^ lowOf (layD x y)=0:=low_mod _ _ (fun k hk=>lowK_zero _ 48 k (by omega) hk)
 have hw:=wrt_part (layD x y) (hiOf (layD x y)) h3 (48-lowOf (layD x y)) (by omega)
 rw[show hiOf (layD x y)-47+(48-lowOf (layD x y))=hiOf (layD x y)+1-lowOf (layD x y) by omega]at hw
 have hv:=join_val hl h3 hmod h2
 have hT:textR x y=signL x++wrt (layD x y) (hiOf (layD x y)) (hiOf (layD x y)+1-lowOf (layD x y)):=rfl
 generalize layD x y=D at*
 refine⟨runD D (hiOf D) (hiOf D-47),runD D 47 (48-lowOf D),decide (48-lowOf D≠0),?_,?_,?_,?_,?_,hv⟩
 ·have e:textR x y=signL x++wrt D (hiOf D) (hiOf D+1-lowOf D):=hT
  rw[e,hw]
  unfold signL joinL
  congr 1
  ·simp
  ·congr 1
   simp
 ·exact figB_mk (by rw[runD_len];omega) (by rw[runD_len];omega) (runD_all _ _ _)
 ·rw[runD_len];omega
 ·intro e
  have e1:48-lowOf D≠0:=by simpa using e
  exact figB_mk (by rw[runD_len];omega) (by rw[runD_len];omega) (runD_all _ _ _)
 ·intro e
  have e1:48-lowOf D=0:=by simpa using e
  rw[e1];rfl
theorem valW_zero (l:List UInt8):valW (48 :: l)=valW l:=by rw[valW];simp
theorem text_plain {x y:Int} (h:RightP (x,y)):textD x y=(textR x y,0)∧readD (textR x y)=((x,y),0)∧readD (48 :: textR x y)=(if x<0 then((0,0),12)else((x,y),0))∧(textR x y).length≤100:=by
 obtain⟨A,P,m,hT,hA,hl,hP,h0,hN⟩:=shown_parts h
 refine⟨?_,?_,?_,?_⟩
 ·unfold textD;rw[if_pos (rightB_P.2 h)]
 ·rw[hT,readD_of _ hA hP h0,hN,read_right h]
 ·by_cases c:x<0
  ·rw[if_pos c,hT,decide_eq_true c]
   exact readD_minus _
  ·rw[if_neg c,hT,decide_eq_false c]
   obtain⟨a1,a2,a3⟩:=figB_iff hA
   have hA':figB (48 :: A)=true:=figB_mk (by simp) (by rw[List.length_cons];omega) (by rw[List.all_cons,a3];rfl)
   have e:=readD_of false hA' hP h0
   have e2:readN (48 :: A) P=readN A P:=by unfold readN;rw[valW_zero]
   rw[e2,hN]at e
   have e3:=read_right h
   rw[decide_eq_false c]at e3
   rw[e3]at e
   exact e
 ·obtain⟨_,h2,_⟩:=hiOf_eq (layD x y)
  have h3:=wrt_len (layD x y) (hiOf (layD x y)) (hiOf (layD x y)+1-lowOf (layD x y))
  unfold textR signL
  rw[List.length_append]
  have h1:=hi_small (layD_lt (rightB_P.2 h))
  have:(if x<0 then [45]else []:List UInt8).length≤1:=by split<;>simp
  have hl2:39≤lowOf (layD x y):=lowK_ge _ (by
   intro k hk
   unfold layD
   refine dg_shift_low _ _ _ ?_
   have:=h.2.2.1
   simp only at this
   omega) 48
  omega
theorem read_three (l:List UInt8):(∃p,readD l=(p,0)∧RightP p)∨readD l=((0,0),12)∨readD l=((0,0),10):=by
 unfold readD
 split
 ·unfold readR
  rcases near_two (readS l) (readN (readW l).1 (readW l).2.1)with c|c
  ·rw[if_pos c]
   split
   ·left
    obtain⟨p,hp⟩:∃p,near (readS l) (readN (readW l).1 (readW l).2.1) false=(p,0):=⟨_,Prod.ext rfl c⟩
    exact⟨p,hp,near_right hp⟩
   ·exact .inr (.inr rfl)
  ·rw[c];exact .inr (.inr rfl)
 ·exact .inr (.inl rfl)
end Go.Proofs.YtkhohjdakcchdaaGreatDoor
namespace Go.Proofs.YtkhohjdakcchdaaGreatDoor
open Go Go.RowKit
theorem three (p:(Int×Int)×Int):∃x y e,p=((x,y),e):=⟨p.1.1,p.1.2,p.2,rfl⟩
theorem right_nought :RightP (0,0):=by unfold RightP;omega
theorem right_one {q:Int} (h0:0≤q) (h1:q<5):RightP (1,q):=by unfold RightP;omega
theorem ofD_right {n x y er:Int} (h:ofD n=((x,y),er)):RightP (x,y):=by
 unfold ofD at h
 generalize hg:near (decide (n<0)) (ofN n) false=g at h
 split at h
 ·rename_i h0
  split at h
  ·subst h
   exact near_right (s:=decide (n<0)) (D:=ofN n) (by rw[hg];exact Prod.ext rfl h0)
  ·injection h with h _
   rw[←h];exact right_nought
 ·injection h with h _
  rw[←h];exact right_nought
theorem divD_right {x y q x' y' er:Int} (h:RightP (x,y)) (h0:0≤q) (h1:q<5) (hd:divD x y 1 q=((x',y'),er)):RightP (x',y'):=by
 rw[divD_Q h (right_one h0 h1) (by decide)]at hd
 generalize hs:mulS x 1=s at hd
 generalize hN:x.natAbs*10 ^ divP y q=N at hd
 generalize hB:(1:Int).natAbs=B at hd
 rcases nearQ_err s N B 19 (-9)with e|e
 ·rw[hd]at e
  obtain⟨t,h2,h3,h4,_,h5⟩:=nearQ_okz (p:=(x',y')) (by rw[hd];exact Prod.ext rfl e)
  rw[h5]
  exact decOf_right s h4 h2 h3
 ·rw[e]at hd
  injection hd with hd _
  rw[←hd];exact right_nought
theorem valN_right (m e:Int):RightP (valN m e):=by
 unfold valN
 obtain⟨x,y,er,h⟩:=three (ofD (pickI m 2000001-1000000))
 obtain⟨b1,b2⟩:=pickI_bd e (n:=5) (by decide)
 obtain⟨x',y',er',h'⟩:=three (divD x y 1 (pickI e 5))
 simp only[h,h']
 split
 ·exact divD_right (ofD_right h) b1 b2 h'
 ·exact right_nought
end Go.Proofs.YtkhohjdakcchdaaGreatDoor
namespace Go.Proofs.YtkhohjdakcchdaaGreatDoor
open Go Go.RowKit Go.Shelf
theorem World.dec.setRow {w:World} {g:Nat} {M E M' E':Int} (h:World.dec w g M E):World.dec (w.setRow g #[.int .i64 M',.int .i64 E']) g M' E':=by unfold World.dec;exact setRow_heap w g _ _ 23 _ h
theorem info23 :(Tryz.prog.info? 23).map (·.size)=some 2:=by kernel_rfl
section
variable {o : Oper} {a : Act} {w : World} {K : Act → World → Prop} {Q : Exit → Act → World → Prop}
theorem cell_alloc' {w:World} {p:Addr} {v:Value} {o:Obj} (h:w.cell? p=some v):(w.alloc o).cell? p=some v:=(World.cell?_alloc_lt w o p (w.block_lt_of_cell? _ h)).trans h
theorem cell_far {w:World} {p q:Addr} {v u:Value} (h:w.cell? p=some v) (hne:q.block≠p.block):(w.setCell q u).cell? p=some v:=(World.cell?_setCell_far w q p u hne).trans h
end
theorem build_num0 (w:World):(Instr.build 34 #[(0,.int .i64 1)]).run Tryz.prog w= .ok (.agg (pcs (numV (0,0)))) w:=by kernel_rfl
theorem wpList_build_num0 {ops:Array Oper} {rest:List Oper} {o:Oper} {a:Act} {w:World} {Q:Exit→Act→World→Prop} (hgd:o.guard=none) (ho:o.op= .build 34 #[(0,.const (.int .i64 1))])
 (h:wpList Tryz.prog ops Q rest (a.put o.dst (.agg (pcs (numV (0,0))))) w):wpList Tryz.prog ops Q (o :: rest) a w:=
 wpList_plain hgd fun K hK=>by
  have hz:=build_num0 w
  have he:a.eval (.const (.int .i64 1))= .int .i64 1:=rfl
  unfold Oper.wp execOp
  simp[ho,he,hz]
  exact hK _ _ h
/-- Block g holds raw numbers. -/
def World.rw (w:World) (g:Nat) (cs:Array Value):Prop:=w.heap[g]? =some (.cells cs 25 (0,0))
theorem World.rw.lt {w:World} {g:Nat} {cs:Array Value} (h:World.rw w g cs):g<w.heap.size:=(Array.getElem?_eq_some_iff.1 h).1
theorem World.rw.below {w w':World} {B g:Nat} {cs:Array Value} (h:World.rw w g cs) (hb:Below B w w') (hlt:g<B):World.rw w' g cs:=by unfold World.rw;rw[hb.block g hlt];exact h
theorem World.rw.grown {w w':World} {g:Nat} {cs:Array Value} {row:Option Nat} (h:World.rw w g cs) (hg:w.grownBy w' row) (hne:some g≠row):World.rw w' g cs:=by unfold World.rw;rw[hg.block g h.lt hne];exact h
theorem World.rw.alloc {w:World} {g:Nat} {cs:Array Value} {o:Obj} (h:World.rw w g cs):World.rw (w.alloc o) g cs:=by unfold World.rw;rw[heap_alloc_old w o h.lt];exact h
theorem World.rw.alloc_drew {w w':World} {g:Nat} {cs:Array Value} {o:Obj} (h:World.rw w g cs) (hb:Below (w.alloc o).drew.heap.size (w.alloc o).drew w'):World.rw w' g cs:=World.rw.below (w:=(w.alloc o).drew) h.alloc hb h.alloc.lt
theorem World.rw.cell {w:World} {g:Nat} {cs:Array Value} (h:World.rw w g cs) {j:Nat} {u:Value} (hj:cs[j]? =some u):w.cell? ⟨g,j,none⟩=some u:=by rw[cell_of_row w g j _ _ _ h,hj]
set_option maxRecDepth 100000 in
set_option maxHeartbeats 4000000 in
theorem val_is1 (k m e:Int) (s:ByteArray) (b:Bool) (w:World) (hk:i64R k) (hm:i64R m) (he:i64R e) (h1:pickI k 5=1):
 Calls Tryz.prog 12 #[.agg (rawC k m e s b)] w (Gives (.agg (pcs (valP k m e s b))) w):=by
 obtain⟨V,hV⟩:∃V,valP k m e s b=V:=⟨_,rfl⟩
 rw[hV]
 unfold valP at hV
 rw[if_pos h1]at hV
 have Hq:=Lib.hid h1
 unfold valN at hV
 obtain⟨q2,hq2⟩:∃q,pickI m 2000001=q:=⟨_,rfl⟩
 obtain⟨q3,hq3⟩:∃q,pickI e 5=q:=⟨_,rfl⟩
 obtain⟨b1,b2⟩:=pickI_bd m (n:=2000001) (by decide)
 obtain⟨b3,b4⟩:=pickI_bd e (n:=5) (by decide)
 rw[hq2]at b1 b2 hV
 rw[hq3]at b3 b4 hV
 obtain⟨x,y,er,hof⟩:=three (ofD (q2-1000000))
 rw[hof]at hV
 obtain⟨x',y',er',hdv⟩:=three (divD x y 1 q3)
 have hV':(if er=0∧er'=0 then numV (x',y')else numV (0,0))=V:=by rw[←hV];simp only[hdv];split<;>rfl
 have hx:=ofD_right hof
 obtain⟨x1,x2,x3,x4,_⟩:=hx
 have CD:=Lib.hid (show ∀W,Calls Tryz.prog 36 #[decV (x,y),.agg #[.int .i64 1,.int .i64 q3]] W fun e w'=>e= .returned (.tuple #[decV (x',y'),.int .i64 er'])∧Below W.heap.size W w' from fun W=>by
  have h:=rdiv_any x y 1 q3 W (by omega) (by omega) (by omega) (by omega)
  rw[hdv]at h
  exact h)
 have CO:=Lib.hid (show ∀W,Calls Tryz.prog 35 #[.int .i64 (q2-1000000)] W fun e w'=>e= .returned (.tuple #[decV (x,y),.int .i64 er])∧Below W.heap.size W w' from fun W=>by
  have h:=rof_any (q2-1000000) W (by omega) (by omega)
  rw[hof]at h
  exact h)
 have Hq2:=Lib.hid hq2
 have Hq3:=Lib.hid hq3
 have HV:=Lib.hid hV'
 clear hV hV' h1 hq2 hq3 hof hdv
 go_enter Tryz.func12,Tryz.ntmps12
 go_wp2_with (refine wpList_alloc34 rfl rfl ?_)
 refine(pick_at k 5 _ _ hk (by decide) (by decide) Hq).mono ?_
 rintro e' w' ⟨rfl,rfl⟩
 go_wp2_with fail
 refine(pick_at m 2000001 _ _ hm (by decide) (by decide) Hq2).mono ?_
 rintro e' w' ⟨rfl,rfl⟩
 go_wp2_with fail
 obtain⟨W,hW⟩:∃W,W=(w.alloc (.cells (rawC k m e s b) 25)).alloc (.cells vz 34):=⟨_,rfl⟩
 rw[←hW]
 have hr:W.heap[w.heap.size]? =some (.cells (rawC k m e s b) 25 (0,0)):=by rw[hW,heap_alloc_old _ _ (by simp)];exact heap_alloc_new w _
 have hv:World.vb W (w.heap.size+1) vz:=by rw[hW];exact World.vb_new' _ _ _ (by simp)
 have hB:Below w.heap.size w W:=by rw[hW];exact((Below.refl _ w).alloc (Nat.le_refl _) _).alloc (by simp) _
 have hz:W.heap.size=w.heap.size+2:=by rw[hW];simp
 clear hW
 refine(CO.out _).mono ?_
 rintro e1 w1 ⟨rfl,hB1⟩
 have hr:=(hB1.block w.heap.size (by omega)).trans hr
 have hv:=hv.below hB1 (by omega)
 have hB:=hB.trans (hB1.mono (by omega))
 have hz:=hB1.size
 go_wp2_with fail
 obtain⟨D1,hD1⟩:∃D,D=w1.heap.size:=⟨_,rfl⟩
 obtain⟨W2,hW2⟩:∃W2,W2=w1.alloc (.cells #[.int .i64 x,.int .i64 y] 23):=⟨_,rfl⟩
 rw[←hW2,←hD1]
 have d1:World.dec W2 D1 x y:=by rw[hW2,hD1];exact World.dec_new _ _ _ _ rfl
 have hr:W2.heap[w.heap.size]? =some (.cells (rawC k m e s b) 25 (0,0)):=by rw[hW2,heap_alloc_old _ _ (by omega)];exact hr
 have hv:World.vb W2 (w.heap.size+1) vz:=by rw[hW2];exact hv.alloc _
 have hB:Below w.heap.size w W2:=by rw[hW2];exact hB.alloc (by omega) _
 have hz2:w.heap.size+1<W2.heap.size:=by rw[hW2];simp;omega
 have hD0:D1<W2.heap.size:=d1.lt
 clear hW2 hD1 hz hB1
 have hr0:World.rw W2 w.heap.size (rawC k m e s b):=hr
 have d10:=d1
 have hv0:=hv
 have hB0:=hB
 have d1:=d1.drew
 have hr:World.rw W2.drew w.heap.size (rawC k m e s b):=hr
 have hv:=hv.drew
 have hB:=hB.drew
 have c0:=d1.c0
 have c1:=d1.c1
 have c2:=hr.cell (j:=2) rfl
 go_region_held3 (fun w'=>w'.cell? ⟨D1,0,none⟩=some (.int .i64 x)∧w'.cell? ⟨D1,1,none⟩=some (.int .i64 y)∧w'.cell? ⟨w.heap.size,2,none⟩=some (.int .i64 e))
  (first|exact⟨c0,c1,c2⟩|exact⟨cell_alloc' c0,cell_alloc' c1,cell_alloc' c2⟩|exact⟨cell_far (cell_far c0 (by(try simp);omega)) (by(try simp);omega),cell_far (cell_far c1 (by(try simp);omega)) (by(try simp);omega),cell_far (cell_far c2 (by(try simp);omega)) (by(try simp);omega)⟩|exact⟨cell_far (cell_far (cell_alloc' c0) (by(try simp);omega)) (by(try simp);omega),cell_far (cell_far (cell_alloc' c1) (by(try simp);omega)) (by(try simp);omega),cell_far (cell_far (cell_alloc' c2) (by(try simp);omega)) (by(try simp);omega)⟩|fail)
  (first|(go_at_call 24;refine(pick_at e 5 _ _ he (by decide) (by decide) Hq3).mono ?_;rintro e2 w2 ⟨rfl,rfl⟩)|(go_at_call 36;refine(CD.out _).mono ?_;rintro e2 w3 ⟨rfl,hB3⟩;have hz3:=hB3.size;(try (have d5:=((World.dec_new W2 0 0 _ rfl).drew).below hB3 (by simp);have e50:=d5.c0;have e51:=d5.c1;have f50:=d5.frozen 0;have f51:=d5.frozen 1));(first|have hv:=hv.below hB3 hv.lt|have hv:=((hv0.alloc _).drew).below hB3 (by(try simp);omega));(first|have hB:=hB.trans (hB3.mono hB.size)|have hB:=((hB0.alloc (by(try simp);omega) _).drew).trans (hB3.mono (by(try simp);omega)));(first|have hr:=hr.below hB3 hr.lt|have hr:=hr0.alloc_drew hB3);(first|have d1:=d1.below hB3 d1.lt|have d1:=((d10.alloc _).drew).below hB3 (by(try simp);omega));have c0:=d1.c0;have c1:=d1.c1;have c2:=hr.cell (j:=2) rfl)|fail)
 all_goals
  first
   |(obtain⟨Wf,hWf⟩:∃Wf,Wf=w3.alloc (.cells #[.int .i64 x',.int .i64 y'] 23):=⟨_,rfl⟩
     rw[←hWf]
     have D5:World.dec Wf w3.heap.size x' y':=by rw[hWf];exact World.dec_new w3 _ _ _ rfl
     have H5:World.vb Wf (w.heap.size+1) vz:=by rw[hWf];exact hv.alloc _
     have B5:Below w.heap.size w Wf:=by rw[hWf];exact hB.alloc hB.size _
     clear hWf)
   |(obtain⟨Wf,hWf⟩:∃Wf,Wf=(w3.setCell ⟨W2.heap.size,0,none⟩ (.int .i64 x')).setCell ⟨W2.heap.size,1,none⟩ (.int .i64 y'):=⟨_,rfl⟩
     rw[←hWf]
     have D5:World.dec Wf W2.heap.size x' y':=by rw[hWf];exact((d5).set0 x').set1 y'
     have H5:World.vb Wf (w.heap.size+1) vz:=by rw[hWf];exact((hv).other (by(try simp);omega) _).other (by(try simp);omega) _
     have B5:Below w.heap.size w Wf:=by rw[hWf];exact((hB).setCell (by(try simp);omega) _).setCell (by(try simp);omega) _
     clear hWf)
  have c50:=D5.c0
  have c51:=D5.c1
  by_cases e0:er=0
  ·by_cases e1:er'=0
   ·have HX:Hid (numV (x',y')=V):=by show _=_;rw[←HV.out,if_pos ⟨e0,e1⟩]
    have e0I:(er==0)=true:=by simpa using e0
    have e1I:(er'==0)=true:=by simpa using e1
    clear e0 e1
    go_wp2_with (first|refine wpList_build_num rfl rfl (by rfl) ?_|(refine wpList_store34 rfl rfl rfl rfl H5 (by rfl) (pcs_one _) ?_;intro w9 hn9 hg9 hz9))
    refine bodyPost_ret (results_cell_row rfl _ _ _ 34 _ (0,0) _ rfl hn9 Tryz.underlying34 rfl info34) rfl ?_
    exact⟨by rw[←HX.out],B5.grown hg9 B5.size (fun k9 hk9=>by cases hk9;omega)⟩
   ·have HX:Hid (numV (0,0)=V):=by show _=_;rw[←HV.out,if_neg (fun h=>e1 h.2)]
    have e0I:(er==0)=true:=by simpa using e0
    have e1I:(er'==0)=false:=by simpa using e1
    clear e0 e1
    go_wp2_with (first|refine wpList_build_num0 rfl rfl ?_|(refine wpList_store34 rfl rfl rfl rfl H5 (by rfl) (pcs_one _) ?_;intro w9 hn9 hg9 hz9))
    refine bodyPost_ret (results_cell_row rfl _ _ _ 34 _ (0,0) _ rfl hn9 Tryz.underlying34 rfl info34) rfl ?_
    exact⟨by rw[←HX.out],B5.grown hg9 B5.size (fun k9 hk9=>by cases hk9;omega)⟩
  ·have HX:Hid (numV (0,0)=V):=by show _=_;rw[←HV.out,if_neg (fun h=>e0 h.1)]
   have e0I:(er==0)=false:=by simpa using e0
   clear e0
   go_wp2_with (first|refine wpList_build_num0 rfl rfl ?_|(refine wpList_store34 rfl rfl rfl rfl H5 (by rfl) (pcs_one _) ?_;intro w9 hn9 hg9 hz9))
   refine bodyPost_ret (results_cell_row rfl _ _ _ 34 _ (0,0) _ rfl hn9 Tryz.underlying34 rfl info34) rfl ?_
   exact⟨by rw[←HX.out],B5.grown hg9 B5.size (fun k9 hk9=>by cases hk9;omega)⟩
end Go.Proofs.YtkhohjdakcchdaaGreatDoor
namespace Go.Proofs.YtkhohjdakcchdaaGreatDoor
open Go Go.RowKit
theorem val_any (k m e:Int) (s:ByteArray) (b:Bool) (w:World) (hk:i64R k) (hm:i64R m) (he:i64R e) (hs:s.size≤9223372036854775807):
 Calls Tryz.prog 12 #[.agg (rawC k m e s b)] w (Gives (.agg (pcs (valP k m e s b))) w):=by
 by_cases h:pickI k 5=1
 ·exact val_is1 k m e s b w hk hm he h
 ·exact val_not1 k m e s b w hk hm hs h
theorem plain_zero :plainV {}=true:=by decide
theorem plain_num {p:Int×Int} (h:RightP p):plainV (numV p)=true:=by
 have:rightB p.1 p.2=true:=rightB_P.2 h
 simp[plainV,bareV,numV,this]
 rfl
theorem plain_txt {s:ByteArray} (h:txtOk s=true):plainV (txtV s)=true:=by simp[plainV,bareV,txtV,h]
theorem plain_tr (b:Bool):plainV (trV b)=true:=by simp[plainV,bareV,trV];rfl
theorem plain_err {n:Int} (h1:1≤n) (h2:n≤9):plainV (errV n)=true:=by simp[plainV,bareV,errV,h1,h2];rfl
theorem pureS_ok (s:ByteArray):txtOk (pureS s)=true:=by
 obtain⟨h1,h2⟩:=pureL_right s.data.toList
 unfold txtOk pureS
 rw[mk_size]
 show(decide _&&isTextL (pureL s.data.toList))=true
 rw[h2,Bool.and_true,decide_eq_true_eq]
 omega
theorem valP_plain (k m e:Int) (s:ByteArray) (b:Bool):plainV (valP k m e s b)=true:=by
 unfold valP
 split
 ·exact plain_num (valN_right m e)
 split
 ·exact plain_txt (pureS_ok s)
 split
 ·exact plain_tr b
 split
 ·obtain⟨h1,h2⟩:=pickI_bd m (n:=9) (by decide)
  exact plain_err (by omega) (by omega)
 ·exact plain_zero
/-- What a plain value is. -/
theorem plain_cases {x:Vl} (h:plainV x=true):x= {}∨(∃p,x=numV p∧RightP p)∨(∃s,x=txtV s∧txtOk s=true)∨(∃b,x=trV b)∨∃n,x=errV n∧1≤n∧n≤9:=by
 obtain⟨k,m,e,s,b,err,rows,cols,l,fn,bl,ps⟩:=x
 simp only[plainV,bareV,Bool.and_eq_true,Bool.or_eq_true,beq_iff_eq,Bool.not_eq_true',decide_eq_true_eq,List.isEmpty_iff]at h
 obtain⟨⟨⟨⟨⟨⟨⟨h1,h2⟩,h3⟩,h4⟩,h5⟩,h6⟩,h7⟩,h8⟩:=h
 have hs0:s.size=0→s=⟨#[]⟩:=fun h=>by
  obtain⟨⟨l⟩⟩:=s
  cases l with
  |nil=>rfl
  |cons a l=>exact absurd h (by simp[ByteArray.size])
 rcases h8 with (((h8|⟨h8,h9⟩)|⟨h8,h9⟩)|h8)|⟨h8,h9,h10⟩<;>subst h8
 ·left
  have a1:=h1.resolve_left (by decide)
  have a2:=hs0 ((h2.resolve_left (by decide)))
  have a3:=h3.resolve_left (by decide)
  have a4:=h4.resolve_left (by decide)
  have a5:=h5.resolve_left (by decide)
  have a6:=h6.resolve_left (by decide)
  have a7:=h7.resolve_left (by decide)
  simp[a1,a2,a3,a4,a5,a6,a7]
 ·right;left
  have a2:=hs0 ((h2.resolve_left (by decide)))
  have a3:=h3.resolve_left (by decide)
  have a4:=h4.resolve_left (by decide)
  have a5:=h5.resolve_left (by decide)
  have a6:=h6.resolve_left (by decide)
  have a7:=h7.resolve_left (by decide)
  exact⟨(m,e),by simp[numV,a2,a3,a4,a5,a6,a7],rightB_P.1 h9⟩
 ·right;right;left
  have a1:=h1.resolve_left (by decide)
  have a3:=h3.resolve_left (by decide)
  have a4:=h4.resolve_left (by decide)
  have a5:=h5.resolve_left (by decide)
  have a6:=h6.resolve_left (by decide)
  have a7:=h7.resolve_left (by decide)
  exact⟨s,by simp[txtV,a1,a3,a4,a5,a6,a7],h9⟩
 ·right;right;right;left
  have a1:=h1.resolve_left (by decide)
  have a2:=hs0 ((h2.resolve_left (by decide)))
  have a4:=h4.resolve_left (by decide)
  have a5:=h5.resolve_left (by decide)
  have a6:=h6.resolve_left (by decide)
  have a7:=h7.resolve_left (by decide)
  exact⟨b,by simp[trV,a1,a2,a4,a5,a6,a7]⟩
 ·right;right;right;right
  have a1:=h1.resolve_left (by decide)
  have a2:=hs0 ((h2.resolve_left (by decide)))
  have a3:=h3.resolve_left (by decide)
  have a5:=h5.resolve_left (by decide)
  have a6:=h6.resolve_left (by decide)
  have a7:=h7.resolve_left (by decide)
  exact⟨err,by simp[errV,a1,a2,a3,a5,a6,a7],h9,h10⟩
end Go.Proofs.YtkhohjdakcchdaaGreatDoor
