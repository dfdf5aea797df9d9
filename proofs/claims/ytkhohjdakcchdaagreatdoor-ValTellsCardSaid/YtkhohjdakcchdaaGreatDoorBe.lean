/- Merged: Made, Plain, Worth, Shown. -/
import Derived.Test.YtkhohjdakcchdaaGreatDoorRead
import Derived.Test.YtkhohjdakcchdaaGreatDoorBc
namespace Go.Proofs.YtkhohjdakcchdaaGreatDoor
open Go.RowKit Go.Shelf
set_option maxHeartbeats 1000000 in
theorem rright_any (M E:Int) (w:World) (h0: -9223372036854775808≤M) (h1:M≤9223372036854775807):
 Calls Tryz.prog 90 #[.agg #[.int .i64 M,.int .i64 E]] w fun e w'=>e= .returned (.bool (rightB M E))∧Below w.heap.size w w':=by
 have HT:=Lib.hid (show M.tmod 10=0↔M%10=0 from by rw[←Int.dvd_iff_tmod_eq_zero,Int.dvd_iff_emod_eq_zero])
 go_enter Tryz.func90,Tryz.ntmps90
 go_wp2
 all_goals
  go_ret
  refine⟨ret_bool ?_,(Below.refl _ _).alloc (Nat.le_refl _) _⟩
  have ht:=HT.out
  rw[Bool.eq_iff_iff,rightB_iff]
  (try simp only[beq_iff_eq,ne_eq,Bool.false_eq_true,false_iff,true_iff])
  first
   |omega
   |(have hm:M=0:=by simpa using ‹(M==0)=true›
     omega)
   |(have hm:M≠0:=by simpa using ‹(M==0)=false›
     omega)
end Go.Proofs.YtkhohjdakcchdaaGreatDoor
namespace Go.Proofs.YtkhohjdakcchdaaGreatDoor
theorem sgn_lay (M E:Int):sgn (decide (M<0)) (layD M E)=valZ (M,E):=by
 unfold sgn layD valZ
 by_cases h:M<0
 ·simp only[h,decide_true,if_true]
  rw[Int.natCast_mul,←Int.neg_mul];congr 1;omega
 ·simp only[h,decide_false,Bool.false_eq_true,if_false]
  rw[Int.natCast_mul];congr 1;omega
end Go.Proofs.YtkhohjdakcchdaaGreatDoor
namespace Go.Proofs.YtkhohjdakcchdaaGreatDoor
theorem dg_eq :∀(n D D':Nat),D<10 ^ n→D'<10 ^ n→(∀k,k<n→dg D k=dg D' k)→D=D'
 |0,D,D',h,h',_=>by rw[Nat.pow_zero]at h h';omega
 |n+1,D,D',h,h',hk=>by
  have h1:=dg_eq n (D / 10) (D' / 10) (by rw[Nat.pow_succ]at h;omega) (by rw[Nat.pow_succ]at h';omega) (fun k hlt=>by
   have:=hk (k+1) (by omega)
   unfold dg at this⊢
   rw[Nat.pow_succ,Nat.mul_comm,←Nat.div_div_eq_div_mul,←Nat.div_div_eq_div_mul]at this
   exact this)
  have h2:=hk 0 (by omega)
  unfold dg at h2
  rw[Nat.pow_zero,Nat.div_one,Nat.div_one]at h2
  omega
theorem layD_lt96 {M E:Int} (h:RightP (M,E)):layD M E<10 ^ 96:=Nat.lt_trans (layD_lt (rightB_P.2 h)) (by decide)
theorem ofN_lt96 {n:Int} (h0: -9223372036854775808≤n) (h1:n≤9223372036854775807):ofN n<10 ^ 96:=by
 have:=ofN_lt h0 h1
 exact Nat.lt_of_le_of_lt (Nat.le_add_right _ _) this
theorem all_eq {D D':Nat} (h:D<10 ^ 96) (h':D'<10 ^ 96):((List.range 96).all fun k=>dg D k==dg D' k)=true↔D=D':=by
 constructor
 ·intro ha
  refine dg_eq 96 D D' h h' (fun k hk=> ?_)
  have:=List.all_eq_true.1 ha k (by simpa using hk)
  simpa using this
 ·intro e;subst e;simp
theorem ofS_iff {n:Int} {p:Int×Int} (h0: -9223372036854775808≤n) (h1:n≤9223372036854775807) (hp:RightP p):ofS n p=true↔decide (p.1<0)=decide (n<0)∧layD p.1 p.2=ofN n:=by
 obtain⟨M,E⟩:=p
 unfold ofS sameF
 rw[Bool.and_eq_true,Bool.and_eq_true,all_eq (layD_lt96 hp) (ofN_lt96 h0 h1)]
 simp
end Go.Proofs.YtkhohjdakcchdaaGreatDoor
namespace Go.Proofs.YtkhohjdakcchdaaGreatDoor
open Go.RowKit Go.Shelf
theorem dig_is :∀d:Nat,d<10→digS.contains (UInt8.ofNat (48+d))=true∧(UInt8.ofNat (48+d)).toNat-48=d:=by decide
theorem lowK_zero (D:Nat):∀K k,k<K→k<lowK D K→dg D k=0
 |0,_,h,_=>absurd h (by omega)
 |K+1,k,h,h2=>by
  rw[lowK]at h2
  by_cases c:dg D K=0
  ·rw[if_pos c]at h2
   by_cases e:k=K
   ·rw[e];exact c
   ·exact lowK_zero D K k (by omega) h2
  ·rw[if_neg c]at h2
   exact lowK_zero D K k (by omega) (by omega)
theorem lowK_ge (D:Nat) (h:∀k,k<39→dg D k=0):∀K,39≤lowK D K
 |0=>by rw[lowK];decide
 |K+1=>by
  rw[lowK]
  have:=lowK_ge D h K
  by_cases c:dg D K=0
  ·rw[if_pos c];exact this
  ·rw[if_neg c]
   have:39≤K:=by
    rcases Nat.lt_or_ge K 39 with e|e
    ·exact absurd (h K e) c
    ·exact e
   omega
theorem index_no :∀l:List UInt8,l.all (fun c=>digS.contains c)=true→Lib.index l [46]= -1
 | [],_=>rfl
 |c :: l,h=>by
  rw[List.all_cons,Bool.and_eq_true]at h
  have hb:=isDig_bd h.1
  have hc:([46]:List UInt8).isPrefixOf (c :: l)=false:=by
   have:(46:UInt8)≠c:=fun e=>by rw[←e]at hb;exact absurd hb.1 (by decide)
   simp[List.isPrefixOf,this]
  rw[Lib.index,hc,index_no l h.2];rfl
theorem index_at (P:List UInt8):∀l:List UInt8,l.all (fun c=>digS.contains c)=true→Lib.index (l++46 :: P) [46]=l.length
 | [],_=>by simp[Lib.index,List.isPrefixOf]
 |c :: l,h=>by
  rw[List.all_cons,Bool.and_eq_true]at h
  have hb:=isDig_bd h.1
  have hc:([46]:List UInt8).isPrefixOf (c :: (l++46 :: P))=false:=by
   have:(46:UInt8)≠c:=fun e=>by rw[←e]at hb;exact absurd hb.1 (by decide)
   simp[List.isPrefixOf,this]
  rw[List.cons_append,Lib.index,hc,index_at P l h.2,if_neg (by decide),if_neg (by rw[beq_iff_eq];omega),List.length_cons];omega
theorem cut_no {A:List UInt8} (h:A.all (fun c=>digS.contains c)=true):Lib.cut A [46]=(A,[],false):=by
 unfold Lib.cut;rw[index_no A h];rfl
theorem cut_at {A P:List UInt8} (h:A.all (fun c=>digS.contains c)=true):Lib.cut (A++46 :: P) [46]=(A,P,true):=by
 unfold Lib.cut;rw[index_at P A h,if_pos (by omega)]
 simp
theorem prefix_one (c:UInt8) (l:List UInt8):Lib.hasPrefix (c :: l) [45]=(45==c):=by
 simp[Lib.hasPrefix,List.isPrefixOf]
theorem figB_mk {l:List UInt8} (h1:1≤l.length) (h2:l.length≤40) (h3:l.all (fun c=>digS.contains c)=true):figB l=true:=by
 unfold figB;rw[h3];simp[h1,h2]
end Go.Proofs.YtkhohjdakcchdaaGreatDoor
