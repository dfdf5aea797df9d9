/- Merged: Fig, Read, Worth, Shown. -/
import Derived.Test.YtmhfioimgllgeaaGreatDoorR01
import Derived.Test.YtmhfioimgllgeaaGreatDoorR13
import Derived.Test.YtmhfioimgllgeaaGreatDoorR12
import Derived.Deep.MidRow
import Derived.Shelf.Strings.Cut
import Derived.Test.YtmhfioimgllgeaaGreatDoorR08
namespace Go.Proofs.YtmhfioimgllgeaaGreatDoor
open Go.RowKit Go.Shelf
def digS :List UInt8:= [48,49,50,51,52,53,54,55,56,57]
theorem trim_any (s:ByteArray) (w:World) (hs:s.size≤9223372036854775807):
 Calls Tryz.prog 334 #[.string s,.string ⟨#[48,49,50,51,52,53,54,55,56,57]⟩] w fun e w'=>e= .returned (.string ⟨(Lib.trimS s.data.toList digS).toArray⟩)∧Below w.heap.size w w':=
 Any.strings_Trim_laid Tryz.lays160 (by kernel_rfl) s ⟨#[48,49,50,51,52,53,54,55,56,57]⟩ w hs (by decide) (ascii_of_all (by decide))
/-- Digits, some, but not too many? -/
def figB (l:List UInt8):Bool:=decide (1≤l.length)&&(decide (l.length≤40)&&l.all (fun c=>digS.contains c))
theorem dropWhile_nil {α:Type} (p:α→Bool):∀l:List α,l.dropWhile p= []↔l.all p=true
 | []=>by simp
 |a :: l=>by
  rw[List.dropWhile_cons,List.all_cons]
  cases h:p a
  ·simp
  ·simp only[if_true,Bool.true_and];exact dropWhile_nil p l
theorem trim_nil (l cs:List UInt8):Lib.trimS l cs= []↔l.all (fun c=>cs.contains c)=true:=by
 unfold Lib.trimS Lib.trimLeftS Lib.trimRightS
 rw[dropWhile_nil,List.all_reverse]
 constructor
 ·intro h
  have h2:List.dropWhile (fun x=>cs.contains x) l.reverse= []:=by
   cases hd:List.dropWhile (fun x=>cs.contains x) l.reverse with
   |nil=>rfl
   |cons a r=>
    have h3:=List.head?_dropWhile_not (fun x=>cs.contains x) l.reverse
    rw[hd]at h3 h
    simp only[List.head?_cons]at h3
    rw[List.all_cons]at h
    rw[h3]at h;cases h
  rw[dropWhile_nil,List.all_reverse]at h2
  exact h2
 ·intro h
  rw[(dropWhile_nil _ _).2 (by rw[List.all_reverse];exact h)];rfl
theorem isEmpty_trim (l:List UInt8):(Lib.trimS l digS).isEmpty=l.all (fun c=>digS.contains c):=by
 rw[Bool.eq_iff_iff,List.isEmpty_iff];exact trim_nil l digS
theorem size_list (s:ByteArray):s.data.toList.length=s.size:=rfl
set_option maxRecDepth 100000 in
set_option maxHeartbeats 4000000 in
theorem fig_any (s:ByteArray) (w:World) (hs:s.size≤9223372036854775807):
 Calls Tryz.prog 312 #[.string s] w fun e w'=>e= .returned (.bool (figB s.data.toList))∧Below w.heap.size w w':=by
 by_cases c1:1≤s.size
 ·by_cases c2:s.size≤40
  ·go_enter Tryz.func312,Tryz.ntmps312
   go_wp2_with (go_at_call 334;refine(trim_any s _ hs).mono ?_;rintro e w1 ⟨rfl,hB⟩)
   go_ret
   refine⟨ret_bool ?_,hB⟩
   rw[figB,size_list,isEmpty_trim];simp[c1,c2]
  ·go_enter Tryz.func312,Tryz.ntmps312
   go_wp2
   go_ret
   refine⟨ret_bool ?_,Below.refl _ _⟩
   rw[figB,size_list];simp[c2]
 ·go_enter Tryz.func312,Tryz.ntmps312
  go_wp2
  go_ret
  refine⟨ret_bool ?_,Below.refl _ _⟩
  rw[figB,size_list];simp[c1]
end Go.Proofs.YtmhfioimgllgeaaGreatDoor
namespace Go.Proofs.YtmhfioimgllgeaaGreatDoor
open Go.RowKit Go.Shelf
/-- The library's own variable that Index looks at holds an int. -/
def Shp (w:World):Prop:=∃m,w.cell? ⟨4,0,none⟩=some (.int .i64 m)
theorem cell_lt {w:World} {b o:Nat} {v:Value} (h:w.cell? ⟨b,o,none⟩=some v):b<w.heap.size:=by
 rcases Nat.lt_or_ge b w.heap.size with h'|h'
 ·exact h'
 ·simp[World.cell?,Array.getElem?_eq_none h']at h
theorem Shp.below {w w':World} (h:Shp w) (hb:Below w.heap.size w w'):Shp w':=by
 obtain⟨m,hm⟩:=h
 exact⟨m,(hb.cell (p:=⟨4,0,none⟩) (cell_lt hm)).trans hm⟩
def valW :List UInt8→Nat
 | []=>0
 |c :: l=>(c.toNat-48)*10 ^ l.length+valW l
theorem isDig_bd {c:UInt8} (h:digS.contains c=true):48≤c.toNat∧c.toNat≤57:=by
 have h2:c∈digS:=by simpa using h
 simp only[digS,List.mem_cons,List.not_mem_nil,or_false]at h2
 rcases h2 with h|h|h|h|h|h|h|h|h|h<;>subst h<;>decide
theorem valW_lt :∀l:List UInt8,l.all (fun c=>digS.contains c)=true→valW l<10 ^ l.length
 | [],_=>by simp[valW]
 |c :: l,h=>by
  rw[List.all_cons,Bool.and_eq_true]at h
  have h1:=valW_lt l h.2
  have h2:=isDig_bd h.1
  have hP:=pow10_pos l.length
  rw[valW,List.length_cons,Nat.pow_succ]
  have:(c.toNat-48)*10 ^ l.length≤9*10 ^ l.length:=Nat.mul_le_mul_right _ (by omega)
  omega
theorem valW_snoc (c:UInt8):∀l:List UInt8,valW (l++ [c])=10*valW l+(c.toNat-48)
 | []=>by simp[valW]
 |a :: l=>by
  rw[List.cons_append,valW,valW,valW_snoc c l,List.length_append,List.length_singleton,Nat.pow_succ,Nat.mul_add,←Nat.mul_assoc,Nat.mul_comm _ 10]
  omega
theorem dg_put {X p d:Nat} (h0:dg X p=0) (hd:d≤9) (i:Nat):dg (X+d*10 ^ p) i=if i=p then(d:Int)else dg X i:=by
 unfold dg at h0⊢
 have hP:=pow10_pos p
 by_cases h1:i<p
 ·rw[if_neg (by omega)]
  obtain⟨q,rfl⟩:∃q,p=i+1+q:=⟨p-i-1,by omega⟩
  rw[show d*10 ^ (i+1+q)=(d*10 ^ q*10)*10 ^ i by rw[Nat.pow_add,Nat.pow_succ];ac_rfl,Nat.add_mul_div_right _ _ (pow10_pos i),Nat.add_mul_mod_self_right]
 ·obtain⟨q,rfl⟩:∃q,i=p+q:=⟨i-p,by omega⟩
  rw[Nat.pow_add,←Nat.div_div_eq_div_mul,←Nat.div_div_eq_div_mul,Nat.add_mul_div_right _ _ hP]
  cases q with
  |zero=>rw[if_pos (by omega),Nat.pow_zero,Nat.div_one];omega
  |succ q=>
   rw[if_neg (by omega),Nat.pow_succ,Nat.mul_comm (10 ^ q) 10,←Nat.div_div_eq_div_mul,←Nat.div_div_eq_div_mul]
   congr 3;omega
/-- What a text's digits come to, in parts of ten to 48. -/
def readN (a b:List UInt8):Nat:=valW a*10 ^ 48+valW b*10 ^ (48-b.length)
def readW (l:List UInt8):List UInt8×List UInt8×Bool:=Lib.cut (Lib.trimPrefix l [45]) [46]
def readS (l:List UInt8):Bool:=Lib.hasPrefix l [45]
def sameD (D D':Nat):Bool:=(List.range 96).all (fun k=>dg D k==dg D' k)
/-- The decimal of digits ahead of the point and behind it. -/
def readR (s:Bool) (D:Nat):(Int×Int)×Int:=
 if(near s D false).2=0 then(if sameD (layD (near s D false).1.1 (near s D false).1.2) D=true then near s D false else((0,0),10))else((0,0),10)
/-- The decimal of a text. -/
def readD (l:List UInt8):(Int×Int)×Int:=
 if figB (readW l).1=true∧((readW l).2.2=true→figB (readW l).2.1=true)then readR (readS l) (readN (readW l).1 (readW l).2.1)else((0,0),12)
theorem wrap_i8 {x:Int} (h0:0≤x) (h1:x≤9):IntKind.i8.wrap x=x:=by
 have:∀n:Nat,n≤9→IntKind.i8.wrap (n:Int)=n:=by decide
 obtain⟨n,rfl⟩:=Int.eq_ofNat_of_zero_le h0
 exact this n (by omega)
theorem dig_store {A:List UInt8} {j:Nat} (hj:j<A.length) (h:A.all (fun c=>digS.contains c)=true) (hj2:j<(⟨A.toArray⟩:ByteArray).size):
 IntKind.i8.wrap ((((⟨A.toArray⟩:ByteArray)[j]'hj2).toNat-48:Int)%256)=((A[j].toNat-48:Nat):Int)∧A[j].toNat-48≤9:=by
 have hb:=isDig_bd (List.all_eq_true.1 h A[j] (List.getElem_mem hj))
 have e:(⟨A.toArray⟩:ByteArray)[j]'hj2=A[j]:=rfl
 rw[e]
 have:((A[j].toNat:Int)-48)%256=((A[j].toNat-48:Nat):Int):=by omega
 rw[this]
 exact⟨wrap_i8 (by omega) (by omega),by omega⟩
theorem drop_step {A:List UInt8} {k j:Nat} (hk:k<A.length) (hj:j=A.length-1-k) (hl:j<A.length):valW (A.drop (A.length-(k+1)))=(A[j].toNat-48)*10 ^ k+valW (A.drop (A.length-k)):=by
 have e:A.length-(k+1)=j:=by omega
 have e2:A.length-k=j+1:=by omega
 rw[e,e2,List.drop_eq_getElem_cons hl,valW,List.length_drop]
 congr 3;omega
theorem take_step {B:List UInt8} {k:Nat} (hk:k<B.length) (h48:k<48):valW (B.take (k+1))*10 ^ (48-(k+1))=valW (B.take k)*10 ^ (48-k)+(B[k].toNat-48)*10 ^ (47-k):=by
 rw[List.take_succ_eq_append_getElem hk,valW_snoc,show 48-(k+1)=47-k by omega,show 48-k=47-k+1 by omega,Nat.pow_succ,Nat.add_mul,Nat.mul_comm 10 (valW _),Nat.mul_assoc,Nat.mul_comm 10 (10 ^ _)]
theorem all_drop {A:List UInt8} (h:A.all (fun c=>digS.contains c)=true) (n:Nat):(A.drop n).all (fun c=>digS.contains c)=true:=by
 rw[List.all_eq_true]at h ⊢;exact fun x hx=>h x (List.mem_of_mem_drop hx)
theorem drop_zero_dig {A:List UInt8} (h:A.all (fun c=>digS.contains c)=true) {k:Nat} (hk:k≤A.length):dg (valW (A.drop (A.length-k))*10 ^ 48) (48+k)=0:=by
 have h1:=valW_lt _ (all_drop h (A.length-k))
 rw[List.length_drop,show A.length-(A.length-k)=k by omega]at h1
 refine dg_of_lt ?_
 rw[Nat.pow_add,Nat.mul_comm (10 ^ 48)]
 exact Nat.mul_lt_mul_of_pos_right h1 (pow10_pos 48)
theorem part_zero_dig (X Y k:Nat) (h48:k<48):dg (X*10 ^ 48+Y*10 ^ (48-k)) (47-k)=0:=by
 have e:X*10 ^ 48+Y*10 ^ (48-k)=(X*10 ^ k+Y)*10 ^ (48-k):=by
  rw[Nat.add_mul,Nat.mul_assoc,←Nat.pow_add];congr 3;omega
 rw[e];exact dg_shift_low _ _ _ (by omega)
theorem readN_lt {A B:List UInt8} (hA:A.all (fun c=>digS.contains c)=true) (hB:B.all (fun c=>digS.contains c)=true) (a:A.length≤40) (b:B.length≤40):readN A B+10 ^ 57<10 ^ 96:=by
 have h1:=valW_lt A hA
 have h2:=valW_lt B hB
 have h3:10 ^ A.length≤10 ^ 40:=Nat.pow_le_pow_right (by decide) a
 have h4:valW B*10 ^ (48-B.length)≤10 ^ B.length*10 ^ (48-B.length):=Nat.mul_le_mul_right _ (Nat.le_of_lt h2)
 rw[←Nat.pow_add,show B.length+(48-B.length)=48 by omega]at h4
 have h5:valW A*10 ^ 48≤10 ^ 40*10 ^ 48:=Nat.mul_le_mul_right _ (Nat.le_trans (Nat.le_of_lt h1) h3)
 have h6:10 ^ 40*10 ^ 48+10 ^ 48+10 ^ 57<10 ^ 96:=by decide
 exact Nat.lt_of_le_of_lt (Nat.add_le_add_right (Nat.add_le_add h5 h4) _) h6
theorem readR_bad {s:Bool} {D:Nat} (h:near s D false=((0,0),10)):readR s D=((0,0),10):=by unfold readR;rw[h];rfl
theorem readR_yes {s:Bool} {D:Nat} {p:Int×Int} (h:near s D false=(p,0)) (h2:sameD (layD p.1 p.2) D=true):readR s D=(p,0):=by unfold readR;rw[h];simp only[if_true,h2]
theorem readR_no {s:Bool} {D:Nat} {p:Int×Int} (h:near s D false=(p,0)) (h2:sameD (layD p.1 p.2) D=false):readR s D=((0,0),10):=by unfold readR;rw[h];simp only[if_true,h2];rfl
section
variable {o : Oper} {a : Act} {w : World} {K : Act → World → Prop} {Q : Exit → Act → World → Prop}
theorem num_range {w:World} {b:Nat} {s:Bool} {f:Nat→Int} {m:Bool} (h:World.num w b s f m):w.rangeAt b 1 (digs f).toList:=by
 intro j v hj
 have hl:j<96:=by
  have:=(List.getElem?_eq_some_iff.1 hj).1
  simpa [digs]using this
 have h1:(digs f)[j]? =some v:=by simpa using hj
 rw[digs_at f hl]at h1
 rw[h.dig hl];exact h1
theorem info54 :(Tryz.prog.info? 103).map (·.size)=some 96:=by kernel_rfl
theorem op_load54 {x:Operand} {b:Nat} {s:Bool} {f:Nat→Int} {m:Bool} (ho:o.op= .load 103 x) (hx:a.eval x= .pointer (some ⟨b,1,none⟩)) (hn:World.num w b s f m) (h:K (a.put o.dst (.agg (digs f))) w):o.wp Tryz.prog a w K Q:=by
 have:=wp_load_mid (P:=Tryz.prog) (K:=K) (Q:=Q) 103 x ho b 1 hx (digs f).toList _ (num_range hn) Tryz.underlying103 rfl (by rw[info54];simp[digs]) (by rw[Array.toArray_toList];exact h)
 exact this
end
theorem bad_ok {a b h:Bool} (e:false=(!a||(h&& !b))):a=true∧(h=true→b=true):=by cases a<;>cases b<;>cases h<;>simp_all
theorem bad_no {a b h:Bool} (e:true=(!a||(h&& !b))):¬(a=true∧(h=true→b=true)):=by cases a<;>cases b<;>cases h<;>simp_all
theorem figB_iff {l:List UInt8} (h:figB l=true):1≤l.length∧l.length≤40∧l.all (fun c=>digS.contains c)=true:=by
 unfold figB at h
 rw[Bool.and_eq_true,Bool.and_eq_true,decide_eq_true_eq,decide_eq_true_eq]at h
 exact⟨h.1,h.2.1,h.2.2⟩
theorem small_arr {s:ByteArray} {A:List UInt8} (hs:s.size<4294967281) (h:A.length≤s.data.toList.length):(⟨A.toArray⟩:ByteArray).size≤9223372036854775807:=by
 have l0:s.data.toList.length=s.size:=rfl
 show A.toArray.size≤_
 rw[List.size_toArray];omega
theorem trimPrefix_len (l p:List UInt8):(Lib.trimPrefix l p).length≤l.length:=by
 unfold Lib.trimPrefix;split<;>simp
theorem cut_len (l p:List UInt8):(Lib.cut l p).1.length≤l.length∧(Lib.cut l p).2.1.length≤l.length:=by
 unfold Lib.cut;split<;>simp<;>omega
theorem readW_len (l:List UInt8):(readW l).1.length≤l.length∧(readW l).2.1.length≤l.length:=by
 have h1:=trimPrefix_len l [45]
 have h2:=cut_len (Lib.trimPrefix l [45]) [46]
 unfold readW;omega
theorem readW_no (l:List UInt8) (h:(readW l).2.2=false):(readW l).2.1= []:=by
 unfold readW Lib.cut at*
 split at h
 ·cases h
 ·rename_i hc;rw[if_neg hc]
theorem cut_any (s:ByteArray) (w:World) (hs:s.size<4294967281) (hm:Shp w):
 Calls Tryz.prog 311 #[.string ⟨(Lib.trimPrefix s.data.toList [45]).toArray⟩,.string ⟨#[46]⟩] w fun e w'=>
  e= .returned (.tuple #[.string ⟨(readW s.data.toList).1.toArray⟩,.string ⟨(readW s.data.toList).2.1.toArray⟩,.bool (readW s.data.toList).2.2])∧∃n,w'=w.drewN n:=by
 obtain⟨m,hm⟩:=hm
 have h:=Tryz.strings_Cut ⟨(Lib.trimPrefix s.data.toList [45]).toArray⟩ ⟨#[46]⟩ m w (by
  have:=trimPrefix_len s.data.toList [45]
  have e:s.data.toList.length=s.size:=rfl
  show(Lib.trimPrefix s.data.toList [45]).toArray.size<_
  rw[List.size_toArray];omega) hm
 exact h
set_option maxRecDepth 100000 in
set_option maxHeartbeats 4000000 in
theorem read_any (s:ByteArray) (w:World) (hs:s.size<4294967281) (hm:Shp w):
 Calls Tryz.prog 282 #[.string s] w (DecPost (readD s.data.toList) w):=by
 go_enter Tryz.func282,Tryz.ntmps282
 go_wp2_with (go_at_call 310;refine(Tryz.strings_CutPrefix s ⟨#[45]⟩ _).mono ?_;rintro e w1 ⟨rfl,rfl⟩)
 obtain⟨W,hW⟩:∃W,W=w.alloc (.cells #[.int .i64 0,.int .i64 0] 34):=⟨_,rfl⟩
 rw[←hW]
 have d2:World.dec W w.heap.size 0 0:=by rw[hW];exact World.dec_new w 0 0 _ rfl
 have hB:Below w.heap.size w W:=by rw[hW];exact(Below.refl _ w).alloc (Nat.le_refl _) _
 have hm1:=hm.below hB
 clear hW
 refine(cut_any s _ hs hm1).mono ?_
 rintro e w1 ⟨rfl,n1,rfl⟩
 have d2:=World.dec.drewN d2 n1
 have hB:=below_drewN hB n1
 obtain⟨l1,l2⟩:=readW_len s.data.toList
 have l0:s.data.toList.length=s.size:=rfl
 have hno:=readW_no s.data.toList
 rw[show Lib.hasPrefix s.data.toList [45]=readS s.data.toList from rfl]
 obtain⟨sg,hsg⟩:∃sg,sg=readS s.data.toList:=⟨_,rfl⟩
 rw[←hsg]
 obtain⟨R,hR⟩:∃R,R=readD s.data.toList:=⟨_,rfl⟩
 have hR2:=hR
 unfold readD at hR2
 rw[←hsg]at hR2
 generalize readW s.data.toList=q at*
 obtain⟨A,Bp,has⟩:=q
 simp only at l1 l2 hno hR2
 have HR:=Lib.hid hR
 have HR2:=Lib.hid hR2
 have HS:=Lib.hid hsg
 have HNO:=Lib.hid hno
 clear hR hR2 hsg hno l0
 have sA:(⟨A.toArray⟩:ByteArray).size≤9223372036854775807:=small_arr hs l1
 have sB:(⟨Bp.toArray⟩:ByteArray).size≤9223372036854775807:=small_arr hs l2
 go_upto_region 3 with fail
 obtain⟨W2,hW⟩:∃W2,W2=W.drewN n1:=⟨_,rfl⟩
 rw[←hW]at d2 hB⊢
 clear hW
 obtain⟨bad,hbad⟩:∃b,b=(!(figB A)||(has&& !(figB Bp))):=⟨_,rfl⟩
 have HBAD:=Lib.hid hbad
 clear hbad
 go_cut [36] (fun v wc=>v= .bool bad∧World.dec wc w.heap.size 0 0∧Below w.heap.size w wc)
 case first=>
  go_wp2_with fail
  refine(fig_any ⟨A.toArray⟩ _ sA).mono ?_
  rintro e w2 ⟨rfl,hB1⟩
  have d2:=d2.below hB1 d2.lt
  have hB:=hB.trans (hB1.mono hB.size)
  clear hB1
  rw[show (⟨A.toArray⟩:ByteArray).data.toList=A from rfl]
  cases hfa:figB A
  ·have HFA:=Lib.hid hfa
   clear hfa
   go_wp2_with fail
   go_meet
   case rel=>exact⟨by rw[HBAD.out,HFA.out];rfl,d2,hB⟩
  ·have HFA:=Lib.hid hfa
   clear hfa
   cases has
   ·go_wp2_with fail
    go_meet
    case rel=>exact⟨by rw[HBAD.out,HFA.out];rfl,d2,hB⟩
   ·go_wp2_with fail
    refine(fig_any ⟨Bp.toArray⟩ _ sB).mono ?_
    rintro e w3 ⟨rfl,hB1⟩
    have d2:=d2.below hB1 d2.lt
    have hB:=hB.trans (hB1.mono hB.size)
    clear hB1
    rw[show (⟨Bp.toArray⟩:ByteArray).data.toList=Bp from rfl]
    go_wp2_with fail
    go_meet
    case rel=>exact⟨by rw[HBAD.out,HFA.out];rfl,d2,hB⟩
 case rest=>
 obtain⟨rfl,d2,hB⟩:=hcut
 cases bad
 ·have hok:figB A=true∧(has=true→figB Bp=true):=by
   exact bad_ok HBAD.out
  have HRR:Hid (R=readR sg (readN A Bp)):=by have:=HR2.out;rw[if_pos hok]at this;exact this
  obtain⟨A1,A2,A3⟩:=figB_iff hok.1
  have hBp:Bp.length≤40∧Bp.all (fun c=>digS.contains c)=true:=by
   cases has
   ·rw[HNO.out rfl];exact⟨by simp,rfl⟩
   ·exact(figB_iff (hok.2 rfl)).2
  obtain⟨B2,B3⟩:=hBp
  clear hok
  have AA:=Lib.hid A3
  have BB:=Lib.hid B3
  clear A3 B3
  go_wp2_with (first
   |refine wpList_alloc56 rfl rfl ?_
   |refine wpList_build56 rfl rfl rfl ?_
   |(refine wpList_store56 rfl rfl rfl rfl (World.num_new _ _ _ _) ?_;intro w3 hn3 hg3 hz3))
  obtain⟨g,hg⟩:∃g,g=wc.heap.size:=⟨_,rfl⟩
  rw[←hg]at hn3⊢
  have hgN:w.heap.size<g:=by rw[hg];exact d2.lt
  have d2:World.dec w3 w.heap.size 0 0:=World.dec.grown (d2.alloc _) hg3 (by simp;omega)
  have hB:Below w.heap.size w w3:=(hB.alloc hB.size _).grown hg3 (by have:=hB.size;simp;omega) (fun k hk=>by cases hk;omega)
  clear hg3 hz3 hg
  go_loopw [42] (fun i wr=>∃k:Nat,i= .int .i64 k∧k≤A.length∧World.num wr g sg (dg (valW (A.drop (A.length-k))*10 ^ 48)) false∧World.dec wr w.heap.size 0 0∧Below w.heap.size w wr) (fun i _=>A.length-(intOf i).toNat)
  case atStart=>
   refine⟨0,rfl,by omega,?_,d2,hB⟩
   rw[Nat.sub_zero,List.drop_length]
   exact World.num.congr hn3 (fun k _=>by rw[show valW []*10 ^ 48=0 from Nat.zero_mul _,dg_zero];rfl)
  case round=>
   obtain⟨k,rfl,k0,hn4,e2,hB4⟩:=hrel
   clear hn3 d2 hB
   by_cases c:k<A.length
   ·have hidx:A.length-1-k<A.length:=by omega
    obtain⟨j,hj⟩:∃j,j=A.length-1-k:=⟨_,rfl⟩
    rw[←hj]at hidx
    have hjI:(A.length:Int)-1-(k:Int)=(j:Int):=by omega
    have HJ:=Lib.hid hj
    clear hj
    obtain⟨hc,hf⟩:=World.num.at hn4 (48+k) (by omega)
    obtain⟨hst,hd9⟩:=dig_store hidx AA.out hidx
    have HST:=Lib.hid hst
    clear hst
    have hD:=World.num.set hn4 (show 48+k<96 by omega) (IntKind.i8.wrap ((((⟨A.toArray⟩:ByteArray)[j]'hidx).toNat-48:Int)%256))
    have e3:=e2.other (a:=⟨g,1+(48+k),none⟩) (by show w.heap.size≠g;omega) (.int .i8 (IntKind.i8.wrap ((((⟨A.toArray⟩:ByteArray)[j]'hidx).toNat-48:Int)%256)))
    have hB5:Below w.heap.size w (wr.setCell ⟨g,1+(48+k),none⟩ (.int .i8 (IntKind.i8.wrap ((((⟨A.toArray⟩:ByteArray)[j]'hidx).toNat-48:Int)%256)))):=hB4.setCell (by show w.heap.size≤g;omega) _
    go_wp2_with fail
    go_roundw
    case rel=>
     refine⟨k+1,by go_num,by omega,World.num.congr hD (fun i _=> ?_),e3,hB5⟩
     rw[drop_step c HJ.out hidx,Nat.add_mul,Nat.mul_assoc,←Nat.pow_add,Nat.add_comm k 48,Nat.add_comm (_*10 ^ (48+k)),dg_put (drop_zero_dig AA.out k0) hd9,HST.out]
    case measure=>first|(simp[intOf];done)|(simp[intOf];omega)
   ·obtain rfl:k=A.length:=by omega
    rw[Nat.sub_self,List.drop_zero]at hn4
    go_wp2_with fail
    go_loopw [61] (fun i wr=>∃k:Nat,i= .int .i64 k∧k≤Bp.length∧World.num wr g sg (dg (valW A*10 ^ 48+valW (Bp.take k)*10 ^ (48-k))) false∧World.dec wr w.heap.size 0 0∧Below w.heap.size w wr) (fun i _=>Bp.length-(intOf i).toNat)
    case atStart=>
     refine⟨0,rfl,by omega,?_,e2,hB4⟩
     rw[List.take_zero,show valW []*10 ^ (48-0)=0 from Nat.zero_mul _,Nat.add_zero]
     exact hn4
    case round=>
     clear hn4 e2 hB4
     obtain⟨k,rfl,k1,hn4,e2,hB4⟩:=hrel
     by_cases c:k<Bp.length
     ·have hk48:k<48:=by omega
      obtain⟨p,hp⟩:∃p,p=47-k:=⟨_,rfl⟩
      have hpI:(47:Int)-(k:Int)=(p:Int):=by omega
      have hp96:p<96:=by omega
      have hp96I:(p:Int)<96:=by omega
      have HP:=Lib.hid hp
      clear hp
      obtain⟨hc,hf⟩:=World.num.at hn4 p hp96
      obtain⟨hst,hd9⟩:=dig_store c BB.out c
      have HST:=Lib.hid hst
      clear hst
      have hD:=World.num.set hn4 hp96 (IntKind.i8.wrap ((((⟨Bp.toArray⟩:ByteArray)[k]'c).toNat-48:Int)%256))
      have e3:=e2.other (a:=⟨g,1+p,none⟩) (by show w.heap.size≠g;omega) (.int .i8 (IntKind.i8.wrap ((((⟨Bp.toArray⟩:ByteArray)[k]'c).toNat-48:Int)%256)))
      have hB5:Below w.heap.size w (wr.setCell ⟨g,1+p,none⟩ (.int .i8 (IntKind.i8.wrap ((((⟨Bp.toArray⟩:ByteArray)[k]'c).toNat-48:Int)%256)))):=hB4.setCell (by show w.heap.size≤g;omega) _
      go_wp2_with fail
      go_roundw
      case rel=>
       refine⟨k+1,by go_num,by omega,World.num.congr hD (fun i _=> ?_),e3,hB5⟩
       rw[take_step c hk48,←Nat.add_assoc,←HP.out,dg_put (by rw[HP.out];exact part_zero_dig _ _ _ hk48) hd9,HST.out]
      case measure=>first|(simp[intOf];done)|(simp[intOf];omega)
     ·obtain rfl:k=Bp.length:=by omega
      rw[List.take_length]at hn4
      have HN:=Lib.hid (readN_lt AA.out BB.out A2 B2)
      have hn5:World.num wr g sg (dg (readN A Bp)) false:=hn4
      obtain⟨D,hD⟩:∃D,D=readN A Bp:=⟨_,rfl⟩
      rw[←hD]at hn5 HN
      have HD:=Lib.hid hD
      clear hD hn4
      go_wp2_with (refine wpList_load56 rfl rfl rfl hn5 ?_)
      refine(nearest_any sg D false _ HN).mono ?_
      rintro e w4 ⟨rfl,hB1⟩
      have hn6:=hn5.below hB1 hn5.lt
      have e3:=e2.below hB1 e2.lt
      have hB5:=hB4.trans (hB1.mono hB4.size)
      have hl3:=e3.lt
      have hl6:=hn6.lt
      clear hB1 hn5 e2 hB4
      obtain⟨X,Y,er,hp,x0,x1,y0,y1,her⟩:∃X Y er:Int,near sg D false=((X,Y),er)∧ -999999999999999≤X∧X≤999999999999999∧ -9≤Y∧Y≤9∧(er=0∨er=10∧X=0∧Y=0):=by
       rcases near_two sg D with h|h
       ·obtain⟨⟨X,Y⟩,hp⟩:∃p,near sg D false=(p,0):=⟨_,Prod.ext rfl h⟩
        obtain⟨x0,x1,y0,y1,_⟩:=near_right hp
        exact⟨X,Y,0,hp,x0,x1,y0,y1,.inl rfl⟩
       ·exact⟨0,0,10,h,by decide,by decide,by decide,by decide,.inr ⟨rfl,rfl,rfl⟩⟩
      rw[hp]
      have HPn:=Lib.hid hp
      have HER:=Lib.hid her
      clear hp her
      go_wp2_with fail
      obtain⟨W5,hW⟩:∃W5,W5=w4.alloc (.cells #[.int .i64 X,.int .i64 Y] 34):=⟨_,rfl⟩
      rw[←hW]
      obtain⟨ga,hga⟩:∃ga,ga=w4.heap.size:=⟨_,rfl⟩
      rw[←hga]
      have da:World.dec W5 ga X Y:=by rw[hW];exact World.dec_new w4 X Y _ hga
      have e3:World.dec W5 w.heap.size 0 0:=by rw[hW];exact e3.alloc _
      have hn6:World.num W5 g sg (dg D) false:=by rw[hW];exact hn6.alloc _
      have hB5:Below w.heap.size w W5:=by rw[hW];exact hB5.alloc hB5.size _
      have hgag:g<ga:=by rw[hga];exact hl6
      clear hW hga hl3 hl6
      refine(lay_any X Y _ x0 x1 y0 y1).mono ?_
      rintro e w6 ⟨rfl,hB1⟩
      have da:=da.below hB1 da.lt
      have e3:=e3.below hB1 e3.lt
      have hn6:=hn6.below hB1 hn6.lt
      have hB5:=hB5.trans (hB1.mono hB5.size)
      clear hB1
      go_upto_region 18 with (first
       |refine wpList_alloc56 rfl rfl ?_
       |(refine wpList_store56 rfl rfl rfl rfl (World.num_new _ _ _ _) ?_;intro w7 hn7 hg7 hz7))
      obtain⟨gy,hgy⟩:∃gy,gy=w6.heap.size:=⟨_,rfl⟩
      rw[←hgy]at hn7⊢
      have hda:=da.lt
      have hda3:=e3.lt
      have hl6:=hn6.lt
      have da:World.dec w7 ga X Y:=World.dec.grown (da.alloc _) hg7 (by simp;omega)
      have e3:World.dec w7 w.heap.size 0 0:=World.dec.grown (e3.alloc _) hg7 (by simp;omega)
      have hn6:World.num w7 g sg (dg D) false:=World.num.grown (hn6.alloc _) hg7 (by simp;omega)
      have hB5:Below w.heap.size w w7:=(hB5.alloc hB5.size _).grown hg7 (by have:=hB5.size;simp;omega) (fun k hk=>by cases hk;exact hB5.size)
      clear hg7 hz7 hgy hda hda3 hl6
      have f0:=e3.frozen 0
      have f1:=e3.frozen 1
      have b0:=e3.c0
      have b1:=e3.c1
      have a0:=da.c0
      have a1:=da.c1
      rcases HER.out with rfl|⟨rfl,rfl,rfl⟩
      ·obtain⟨sm,hsm⟩:∃sm,sm=sameD (layD X Y) D:=⟨_,rfl⟩
       have HSM:=Lib.hid hsm
       clear hsm
       have heq:(Op.equalIn 10000 103 (.agg (digs (dg (layD X Y)))) (.agg (digs (dg D)))).run Tryz.prog w7= .ok sm w7:=by
        have h:=eq54 w7 (dg (layD X Y)) (dg D)
        unfold Op.equal Op.maxDepth at h
        rw[HSM.out];exact h
       have HEQ:=Lib.hid heq
       clear heq
       go_upto_if 89 with (first|refine op_load54 rfl rfl hn7 ?_|refine op_load54 rfl rfl hn6 ?_)
       rw[HEQ.out]
       simp only[Result.andThen]
       rw[Oper.upon_value]
       cases sm
       ·go_wp2_with fail
        refine bodyPost_ret (results_dec_tmp rfl _ _ _ 0 0 rfl ((e3.set0 0).set1 0)) rfl ?_
        refine⟨?_,(hB5.setCell (by simp) _).setCell (by simp) _⟩
        rw[←HR.out,HRR.out,←HD.out,readR_no HPn.out HSM.out.symm];rfl
       ·go_wp2_with fail
        refine bodyPost_ret (results_dec_tmp rfl _ _ _ X Y rfl ((e3.set0 X).set1 Y)) rfl ?_
        refine⟨?_,(hB5.setCell (by simp) _).setCell (by simp) _⟩
        rw[←HR.out,HRR.out,←HD.out,readR_yes HPn.out HSM.out.symm];rfl
      ·go_wp2_with fail
       refine bodyPost_ret (results_dec_tmp rfl _ _ _ 0 0 rfl ((e3.set0 0).set1 0)) rfl ?_
       refine⟨?_,(hB5.setCell (by simp) _).setCell (by simp) _⟩
       rw[←HR.out,HRR.out,←HD.out,readR_bad HPn.out];rfl
 ·have hbad:¬(figB A=true∧(has=true→figB Bp=true)):=by
   exact bad_no HBAD.out
  have HRR:Hid (R=((0,0),12)):=by have:=HR2.out;rw[if_neg hbad]at this;exact this
  clear hbad
  have f0:=d2.frozen 0
  have f1:=d2.frozen 1
  have b0:=d2.c0
  have b1:=d2.c1
  go_wp2_with fail
  refine bodyPost_ret (results_dec_tmp rfl _ _ _ 0 0 rfl ((d2.set0 0).set1 0)) rfl ?_
  refine⟨?_,(hB.setCell (by simp) _).setCell (by simp) _⟩
  rw[←HR.out,HRR.out];rfl
end Go.Proofs.YtmhfioimgllgeaaGreatDoor
namespace Go.Proofs.YtmhfioimgllgeaaGreatDoor
theorem dg_eq :∀(n D D':Nat),D<10 ^ n→D'<10 ^ n→(∀k,k<n→dg D k=dg D' k)→D=D'
 |0,D,D',h,h',_=>by rw[Nat.pow_zero]at h h';omega
 |n+1,D,D',h,h',hk=>by
  have h1:=dg_eq n (D / 10) (D' / 10) (by rw[Nat.pow_succ]at h;omega) (by rw[Nat.pow_succ]at h';omega) (fun k hlt=>by
   have:=hk (k+1) (by omega)
   unfold dg at this⊢
   rw[Nat.pow_succ,Nat.mul_comm,←Nat.div_div_eq_div_mul,←Nat.div_div_eq_div_mul]at this
   exact this)
  have h2:=hk 0 (by omega)
  unfold dg at h2
  rw[Nat.pow_zero,Nat.div_one,Nat.div_one]at h2
  omega
theorem layD_lt96 {M E:Int} (h:RightP (M,E)):layD M E<10 ^ 96:=Nat.lt_trans (layD_lt (rightB_P.2 h)) (by decide)
theorem ofN_lt96 {n:Int} (h0: -9223372036854775808≤n) (h1:n≤9223372036854775807):ofN n<10 ^ 96:=by
 have:=ofN_lt h0 h1
 exact Nat.lt_of_le_of_lt (Nat.le_add_right _ _) this
theorem all_eq {D D':Nat} (h:D<10 ^ 96) (h':D'<10 ^ 96):((List.range 96).all fun k=>dg D k==dg D' k)=true↔D=D':=by
 constructor
 ·intro ha
  refine dg_eq 96 D D' h h' (fun k hk=> ?_)
  have:=List.all_eq_true.1 ha k (by simpa using hk)
  simpa using this
 ·intro e;subst e;simp
theorem ofS_iff {n:Int} {p:Int×Int} (h0: -9223372036854775808≤n) (h1:n≤9223372036854775807) (hp:RightP p):ofS n p=true↔decide (p.1<0)=decide (n<0)∧layD p.1 p.2=ofN n:=by
 obtain⟨M,E⟩:=p
 unfold ofS sameF
 rw[Bool.and_eq_true,Bool.and_eq_true,all_eq (layD_lt96 hp) (ofN_lt96 h0 h1)]
 simp
end Go.Proofs.YtmhfioimgllgeaaGreatDoor
namespace Go.Proofs.YtmhfioimgllgeaaGreatDoor
open Go.RowKit Go.Shelf
theorem dig_is :∀d:Nat,d<10→digS.contains (UInt8.ofNat (48+d))=true∧(UInt8.ofNat (48+d)).toNat-48=d:=by decide
theorem lowK_zero (D:Nat):∀K k,k<K→k<lowK D K→dg D k=0
 |0,_,h,_=>absurd h (by omega)
 |K+1,k,h,h2=>by
  rw[lowK]at h2
  by_cases c:dg D K=0
  ·rw[if_pos c]at h2
   by_cases e:k=K
   ·rw[e];exact c
   ·exact lowK_zero D K k (by omega) h2
  ·rw[if_neg c]at h2
   exact lowK_zero D K k (by omega) (by omega)
theorem lowK_ge (D:Nat) (h:∀k,k<39→dg D k=0):∀K,39≤lowK D K
 |0=>by rw[lowK];decide
 |K+1=>by
  rw[lowK]
  have:=lowK_ge D h K
  by_cases c:dg D K=0
  ·rw[if_pos c];exact this
  ·rw[if_neg c]
   have:39≤K:=by
    rcases Nat.lt_or_ge K 39 with e|e
    ·exact absurd (h K e) c
    ·exact e
   omega
theorem index_no :∀l:List UInt8,l.all (fun c=>digS.contains c)=true→Lib.index l [46]= -1
 | [],_=>rfl
 |c :: l,h=>by
  rw[List.all_cons,Bool.and_eq_true]at h
  have hb:=isDig_bd h.1
  have hc:([46]:List UInt8).isPrefixOf (c :: l)=false:=by
   have:(46:UInt8)≠c:=fun e=>by rw[←e]at hb;exact absurd hb.1 (by decide)
   simp[List.isPrefixOf,this]
  rw[Lib.index,hc,index_no l h.2];rfl
theorem index_at (P:List UInt8):∀l:List UInt8,l.all (fun c=>digS.contains c)=true→Lib.index (l++46 :: P) [46]=l.length
 | [],_=>by simp[Lib.index,List.isPrefixOf]
 |c :: l,h=>by
  rw[List.all_cons,Bool.and_eq_true]at h
  have hb:=isDig_bd h.1
  have hc:([46]:List UInt8).isPrefixOf (c :: (l++46 :: P))=false:=by
   have:(46:UInt8)≠c:=fun e=>by rw[←e]at hb;exact absurd hb.1 (by decide)
   simp[List.isPrefixOf,this]
  rw[List.cons_append,Lib.index,hc,index_at P l h.2,if_neg (by decide),if_neg (by rw[beq_iff_eq];omega),List.length_cons];omega
theorem cut_no {A:List UInt8} (h:A.all (fun c=>digS.contains c)=true):Lib.cut A [46]=(A,[],false):=by
 unfold Lib.cut;rw[index_no A h];rfl
theorem cut_at {A P:List UInt8} (h:A.all (fun c=>digS.contains c)=true):Lib.cut (A++46 :: P) [46]=(A,P,true):=by
 unfold Lib.cut;rw[index_at P A h,if_pos (by omega)]
 simp
theorem prefix_one (c:UInt8) (l:List UInt8):Lib.hasPrefix (c :: l) [45]=(45==c):=by
 simp[Lib.hasPrefix,List.isPrefixOf]
theorem figB_mk {l:List UInt8} (h1:1≤l.length) (h2:l.length≤40) (h3:l.all (fun c=>digS.contains c)=true):figB l=true:=by
 unfold figB;rw[h3];simp[h1,h2]
end Go.Proofs.YtmhfioimgllgeaaGreatDoor
