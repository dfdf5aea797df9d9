/- Merged: Rba, Rpn, Rgr. -/
import Derived.Test.YtkhohjdakcchdaaGreatDoorBx
namespace Go.Proofs.YtkhohjdakcchdaaGreatDoor
open Go Go.RowKit Go.Shelf
theorem str_nil (s:ByteArray) (h:s.size=0):s=⟨#[]⟩:=by
 obtain⟨⟨l⟩⟩:=s
 cases l with
 |nil=>rfl
 |cons a l=>exact absurd h (by simp[ByteArray.size])
theorem str_full (s:ByteArray) (h:¬s.size=0):s.toList.isEmpty=false:=list_full (by omega)
theorem ret_b {a b:Bool} (h:a=b):Ending.returned (.bool a)= .returned (.bool b):=by rw[h]
set_option maxRecDepth 100000 in
set_option maxHeartbeats 16000000 in
theorem rbare_1 (x:Vl) (p p2 p3:Option Addr) (c c2 c3:Nat) (w:World):Calls Tryz.prog 94 #[.agg (vcs x (.slice p x.l.length c) (.slice p2 x.bl.length c2) (.slice p3 x.ps.length c3)),.int .i64 1] w (Gives (.bool (bareV x 1)) w):=by
 obtain⟨k0,m,e,s,b,err,rows,cols,l,fn,bl,ps⟩:=x
 obtain⟨P,hP⟩:∃P,bareV ⟨k0,m,e,s,b,err,rows,cols,l,fn,bl,ps⟩ 1=P:=⟨_,rfl⟩
 rw[hP]
 have HP:Hid (P=true↔(s.size=0)∧(b=false)∧(err=0)∧(rows=0)∧(cols=0)∧(l.length=0)∧(fn=0)∧(bl.length=0)∧(ps.length=0)):=Lib.hid (by
  rw[←hP]
  unfold bareV
  simp<;>grind)
 obtain⟨C,hC⟩:∃C,vcs ⟨k0,m,e,s,b,err,rows,cols,l,fn,bl,ps⟩ (.slice p l.length c) (.slice p2 bl.length c2) (.slice p3 ps.length c3)=C:=⟨_,rfl⟩
 dsimp only
 rw[hC]
 have x3:C[3]? =some (.string s):=by rw[←hC];rfl
 have x4:C[4]? =some (.bool b):=by rw[←hC];rfl
 have x5:C[5]? =some (.int .i64 err):=by rw[←hC];rfl
 have x6:C[6]? =some (.int .i64 rows):=by rw[←hC];rfl
 have x7:C[7]? =some (.int .i64 cols):=by rw[←hC];rfl
 have x8:C[8]? =some (.slice p l.length c):=by rw[←hC];rfl
 have x9:C[9]? =some (.int .i64 fn):=by rw[←hC];rfl
 have x10:C[10]? =some (.slice p2 bl.length c2):=by rw[←hC];rfl
 have x11:C[11]? =some (.slice p3 ps.length c3):=by rw[←hC];rfl
 clear hC hP
 generalize l.length=nl at*
 generalize bl.length=nb at*
 generalize ps.length=np at*
 have HB:=(Below.refl w.heap.size w).alloc (Nat.le_refl _) (.cells C 34)
 have a9:∀f:Field,([f]:List Field)[0]? =some f:=fun _=>rfl
 have a90:∀f g:Field,([f,g]:List Field)[0]? =some f:=fun _ _=>rfl
 by_cases hne:¬s.size=0
 ·have HN:Hid (P=false):=Lib.hid (Bool.eq_false_iff.2 fun h=>hne (HP.out.1 h).1)
  have f0:=str_full s hne
  clear hne
  go_enter Tryz.func94,Tryz.ntmps94
  go_wp2_with fail
  go_ret
  exact⟨ret_b HN.out.symm,HB⟩
 have hne:=Classical.not_not.1 hne
 have hs:=str_nil s hne
 subst hs
 clear hne
 by_cases hne:¬b=false
 ·have HN:Hid (P=false):=Lib.hid (Bool.eq_false_iff.2 fun h=>hne (HP.out.1 h).2.1)
  have f0:b=true:=by simpa using hne
  subst f0
  clear hne
  go_enter Tryz.func94,Tryz.ntmps94
  go_wp2_with fail
  go_ret
  exact⟨ret_b HN.out.symm,HB⟩
 have hne:=Classical.not_not.1 hne
 subst hne
 by_cases hne:¬err=0
 ·have HN:Hid (P=false):=Lib.hid (Bool.eq_false_iff.2 fun h=>hne (HP.out.1 h).2.2.1)
  have f0:(err != 0)=true:=by simpa using hne
  clear hne
  go_enter Tryz.func94,Tryz.ntmps94
  go_wp2_with fail
  go_ret
  exact⟨ret_b HN.out.symm,HB⟩
 have hne:=Classical.not_not.1 hne
 subst hne
 by_cases hne:¬rows=0
 ·have HN:Hid (P=false):=Lib.hid (Bool.eq_false_iff.2 fun h=>hne (HP.out.1 h).2.2.2.1)
  have f0:(rows != 0)=true:=by simpa using hne
  clear hne
  go_enter Tryz.func94,Tryz.ntmps94
  go_wp2_with fail
  go_ret
  exact⟨ret_b HN.out.symm,HB⟩
 have hne:=Classical.not_not.1 hne
 subst hne
 by_cases hne:¬cols=0
 ·have HN:Hid (P=false):=Lib.hid (Bool.eq_false_iff.2 fun h=>hne (HP.out.1 h).2.2.2.2.1)
  have f0:(cols != 0)=true:=by simpa using hne
  clear hne
  go_enter Tryz.func94,Tryz.ntmps94
  go_wp2_with fail
  go_ret
  exact⟨ret_b HN.out.symm,HB⟩
 have hne:=Classical.not_not.1 hne
 subst hne
 by_cases hne:¬nl=0
 ·have HN:Hid (P=false):=Lib.hid (Bool.eq_false_iff.2 fun h=>hne (HP.out.1 h).2.2.2.2.2.1)
  have f0:(0:Int)<(nl:Int):=by omega
  clear hne
  go_enter Tryz.func94,Tryz.ntmps94
  go_wp2_with fail
  go_ret
  exact⟨ret_b HN.out.symm,HB⟩
 have hne:=Classical.not_not.1 hne
 subst hne
 by_cases hne:¬fn=0
 ·have HN:Hid (P=false):=Lib.hid (Bool.eq_false_iff.2 fun h=>hne (HP.out.1 h).2.2.2.2.2.2.1)
  have f0:(fn==0)=false:=by simpa using hne
  clear hne
  go_enter Tryz.func94,Tryz.ntmps94
  go_wp2_with fail
  go_ret
  exact⟨ret_b HN.out.symm,HB⟩
 have hne:=Classical.not_not.1 hne
 subst hne
 by_cases hne:¬nb=0
 ·have HN:Hid (P=false):=Lib.hid (Bool.eq_false_iff.2 fun h=>hne (HP.out.1 h).2.2.2.2.2.2.2.1)
  have f0:((nb:Int)==0)=false:=by rw[beq_eq_false_iff_ne];omega
  clear hne
  go_enter Tryz.func94,Tryz.ntmps94
  go_wp2_with fail
  go_ret
  exact⟨ret_b HN.out.symm,HB⟩
 have hne:=Classical.not_not.1 hne
 subst hne
 by_cases hne:¬np=0
 ·have HN:Hid (P=false):=Lib.hid (Bool.eq_false_iff.2 fun h=>hne (HP.out.1 h).2.2.2.2.2.2.2.2)
  have f0:((np:Int)==0)=false:=by rw[beq_eq_false_iff_ne];omega
  clear hne
  go_enter Tryz.func94,Tryz.ntmps94
  go_wp2_with fail
  go_ret
  exact⟨ret_b HN.out.symm,HB⟩
 have hne:=Classical.not_not.1 hne
 subst hne
 have HN:Hid (P=true):=Lib.hid (HP.out.2 ⟨rfl,rfl,rfl,rfl,rfl,rfl,rfl,rfl,rfl⟩)
 go_enter Tryz.func94,Tryz.ntmps94
 go_wp2_with fail
 go_ret
 exact⟨ret_b HN.out.symm,HB⟩
set_option maxRecDepth 100000 in
set_option maxHeartbeats 16000000 in
theorem rbare_2 (x:Vl) (p p2 p3:Option Addr) (c c2 c3:Nat) (w:World):Calls Tryz.prog 94 #[.agg (vcs x (.slice p x.l.length c) (.slice p2 x.bl.length c2) (.slice p3 x.ps.length c3)),.int .i64 2] w (Gives (.bool (bareV x 2)) w):=by
 obtain⟨k0,m,e,s,b,err,rows,cols,l,fn,bl,ps⟩:=x
 obtain⟨P,hP⟩:∃P,bareV ⟨k0,m,e,s,b,err,rows,cols,l,fn,bl,ps⟩ 2=P:=⟨_,rfl⟩
 rw[hP]
 have HP:Hid (P=true↔(m=0)∧(e=0)∧(b=false)∧(err=0)∧(rows=0)∧(cols=0)∧(l.length=0)∧(fn=0)∧(bl.length=0)∧(ps.length=0)):=Lib.hid (by
  rw[←hP]
  unfold bareV
  simp<;>grind)
 obtain⟨C,hC⟩:∃C,vcs ⟨k0,m,e,s,b,err,rows,cols,l,fn,bl,ps⟩ (.slice p l.length c) (.slice p2 bl.length c2) (.slice p3 ps.length c3)=C:=⟨_,rfl⟩
 dsimp only
 rw[hC]
 have x1:C[1]? =some (.int .i64 m):=by rw[←hC];rfl
 have x2:C[2]? =some (.int .i64 e):=by rw[←hC];rfl
 have x4:C[4]? =some (.bool b):=by rw[←hC];rfl
 have x5:C[5]? =some (.int .i64 err):=by rw[←hC];rfl
 have x6:C[6]? =some (.int .i64 rows):=by rw[←hC];rfl
 have x7:C[7]? =some (.int .i64 cols):=by rw[←hC];rfl
 have x8:C[8]? =some (.slice p l.length c):=by rw[←hC];rfl
 have x9:C[9]? =some (.int .i64 fn):=by rw[←hC];rfl
 have x10:C[10]? =some (.slice p2 bl.length c2):=by rw[←hC];rfl
 have x11:C[11]? =some (.slice p3 ps.length c3):=by rw[←hC];rfl
 clear hC hP
 generalize l.length=nl at*
 generalize bl.length=nb at*
 generalize ps.length=np at*
 have HB:=(Below.refl w.heap.size w).alloc (Nat.le_refl _) (.cells C 34)
 have a9:∀f:Field,([f]:List Field)[0]? =some f:=fun _=>rfl
 have a90:∀f g:Field,([f,g]:List Field)[0]? =some f:=fun _ _=>rfl
 by_cases hne:¬m=0
 ·have HN:Hid (P=false):=Lib.hid (Bool.eq_false_iff.2 fun h=>hne (HP.out.1 h).1)
  have f0:(m != 0)=true:=by simpa using hne
  clear hne
  go_enter Tryz.func94,Tryz.ntmps94
  go_wp2_with fail
  go_ret
  exact⟨ret_b HN.out.symm,HB⟩
 have hne:=Classical.not_not.1 hne
 subst hne
 by_cases hne:¬e=0
 ·have HN:Hid (P=false):=Lib.hid (Bool.eq_false_iff.2 fun h=>hne (HP.out.1 h).2.1)
  have f0:(e != 0)=true:=by simpa using hne
  clear hne
  go_enter Tryz.func94,Tryz.ntmps94
  go_wp2_with fail
  go_ret
  exact⟨ret_b HN.out.symm,HB⟩
 have hne:=Classical.not_not.1 hne
 subst hne
 by_cases hne:¬b=false
 ·have HN:Hid (P=false):=Lib.hid (Bool.eq_false_iff.2 fun h=>hne (HP.out.1 h).2.2.1)
  have f0:b=true:=by simpa using hne
  subst f0
  clear hne
  go_enter Tryz.func94,Tryz.ntmps94
  go_wp2_with fail
  go_ret
  exact⟨ret_b HN.out.symm,HB⟩
 have hne:=Classical.not_not.1 hne
 subst hne
 by_cases hne:¬err=0
 ·have HN:Hid (P=false):=Lib.hid (Bool.eq_false_iff.2 fun h=>hne (HP.out.1 h).2.2.2.1)
  have f0:(err != 0)=true:=by simpa using hne
  clear hne
  go_enter Tryz.func94,Tryz.ntmps94
  go_wp2_with fail
  go_ret
  exact⟨ret_b HN.out.symm,HB⟩
 have hne:=Classical.not_not.1 hne
 subst hne
 by_cases hne:¬rows=0
 ·have HN:Hid (P=false):=Lib.hid (Bool.eq_false_iff.2 fun h=>hne (HP.out.1 h).2.2.2.2.1)
  have f0:(rows != 0)=true:=by simpa using hne
  clear hne
  go_enter Tryz.func94,Tryz.ntmps94
  go_wp2_with fail
  go_ret
  exact⟨ret_b HN.out.symm,HB⟩
 have hne:=Classical.not_not.1 hne
 subst hne
 by_cases hne:¬cols=0
 ·have HN:Hid (P=false):=Lib.hid (Bool.eq_false_iff.2 fun h=>hne (HP.out.1 h).2.2.2.2.2.1)
  have f0:(cols != 0)=true:=by simpa using hne
  clear hne
  go_enter Tryz.func94,Tryz.ntmps94
  go_wp2_with fail
  go_ret
  exact⟨ret_b HN.out.symm,HB⟩
 have hne:=Classical.not_not.1 hne
 subst hne
 by_cases hne:¬nl=0
 ·have HN:Hid (P=false):=Lib.hid (Bool.eq_false_iff.2 fun h=>hne (HP.out.1 h).2.2.2.2.2.2.1)
  have f0:(0:Int)<(nl:Int):=by omega
  clear hne
  go_enter Tryz.func94,Tryz.ntmps94
  go_wp2_with fail
  go_ret
  exact⟨ret_b HN.out.symm,HB⟩
 have hne:=Classical.not_not.1 hne
 subst hne
 by_cases hne:¬fn=0
 ·have HN:Hid (P=false):=Lib.hid (Bool.eq_false_iff.2 fun h=>hne (HP.out.1 h).2.2.2.2.2.2.2.1)
  have f0:(fn==0)=false:=by simpa using hne
  clear hne
  go_enter Tryz.func94,Tryz.ntmps94
  go_wp2_with fail
  go_ret
  exact⟨ret_b HN.out.symm,HB⟩
 have hne:=Classical.not_not.1 hne
 subst hne
 by_cases hne:¬nb=0
 ·have HN:Hid (P=false):=Lib.hid (Bool.eq_false_iff.2 fun h=>hne (HP.out.1 h).2.2.2.2.2.2.2.2.1)
  have f0:((nb:Int)==0)=false:=by rw[beq_eq_false_iff_ne];omega
  clear hne
  go_enter Tryz.func94,Tryz.ntmps94
  go_wp2_with fail
  go_ret
  exact⟨ret_b HN.out.symm,HB⟩
 have hne:=Classical.not_not.1 hne
 subst hne
 by_cases hne:¬np=0
 ·have HN:Hid (P=false):=Lib.hid (Bool.eq_false_iff.2 fun h=>hne (HP.out.1 h).2.2.2.2.2.2.2.2.2)
  have f0:((np:Int)==0)=false:=by rw[beq_eq_false_iff_ne];omega
  clear hne
  go_enter Tryz.func94,Tryz.ntmps94
  go_wp2_with fail
  go_ret
  exact⟨ret_b HN.out.symm,HB⟩
 have hne:=Classical.not_not.1 hne
 subst hne
 have HN:Hid (P=true):=Lib.hid (HP.out.2 ⟨rfl,rfl,rfl,rfl,rfl,rfl,rfl,rfl,rfl,rfl⟩)
 go_enter Tryz.func94,Tryz.ntmps94
 go_wp2_with fail
 go_ret
 exact⟨ret_b HN.out.symm,HB⟩
set_option maxRecDepth 100000 in
set_option maxHeartbeats 16000000 in
theorem rbare_3 (x:Vl) (p p2 p3:Option Addr) (c c2 c3:Nat) (w:World):Calls Tryz.prog 94 #[.agg (vcs x (.slice p x.l.length c) (.slice p2 x.bl.length c2) (.slice p3 x.ps.length c3)),.int .i64 3] w (Gives (.bool (bareV x 3)) w):=by
 obtain⟨k0,m,e,s,b,err,rows,cols,l,fn,bl,ps⟩:=x
 obtain⟨P,hP⟩:∃P,bareV ⟨k0,m,e,s,b,err,rows,cols,l,fn,bl,ps⟩ 3=P:=⟨_,rfl⟩
 rw[hP]
 have HP:Hid (P=true↔(m=0)∧(e=0)∧(s.size=0)∧(err=0)∧(rows=0)∧(cols=0)∧(l.length=0)∧(fn=0)∧(bl.length=0)∧(ps.length=0)):=Lib.hid (by
  rw[←hP]
  unfold bareV
  simp<;>grind)
 obtain⟨C,hC⟩:∃C,vcs ⟨k0,m,e,s,b,err,rows,cols,l,fn,bl,ps⟩ (.slice p l.length c) (.slice p2 bl.length c2) (.slice p3 ps.length c3)=C:=⟨_,rfl⟩
 dsimp only
 rw[hC]
 have x1:C[1]? =some (.int .i64 m):=by rw[←hC];rfl
 have x2:C[2]? =some (.int .i64 e):=by rw[←hC];rfl
 have x3:C[3]? =some (.string s):=by rw[←hC];rfl
 have x5:C[5]? =some (.int .i64 err):=by rw[←hC];rfl
 have x6:C[6]? =some (.int .i64 rows):=by rw[←hC];rfl
 have x7:C[7]? =some (.int .i64 cols):=by rw[←hC];rfl
 have x8:C[8]? =some (.slice p l.length c):=by rw[←hC];rfl
 have x9:C[9]? =some (.int .i64 fn):=by rw[←hC];rfl
 have x10:C[10]? =some (.slice p2 bl.length c2):=by rw[←hC];rfl
 have x11:C[11]? =some (.slice p3 ps.length c3):=by rw[←hC];rfl
 clear hC hP
 generalize l.length=nl at*
 generalize bl.length=nb at*
 generalize ps.length=np at*
 have HB:=(Below.refl w.heap.size w).alloc (Nat.le_refl _) (.cells C 34)
 have a9:∀f:Field,([f]:List Field)[0]? =some f:=fun _=>rfl
 have a90:∀f g:Field,([f,g]:List Field)[0]? =some f:=fun _ _=>rfl
 by_cases hne:¬m=0
 ·have HN:Hid (P=false):=Lib.hid (Bool.eq_false_iff.2 fun h=>hne (HP.out.1 h).1)
  have f0:(m != 0)=true:=by simpa using hne
  clear hne
  go_enter Tryz.func94,Tryz.ntmps94
  go_wp2_with fail
  go_ret
  exact⟨ret_b HN.out.symm,HB⟩
 have hne:=Classical.not_not.1 hne
 subst hne
 by_cases hne:¬e=0
 ·have HN:Hid (P=false):=Lib.hid (Bool.eq_false_iff.2 fun h=>hne (HP.out.1 h).2.1)
  have f0:(e != 0)=true:=by simpa using hne
  clear hne
  go_enter Tryz.func94,Tryz.ntmps94
  go_wp2_with fail
  go_ret
  exact⟨ret_b HN.out.symm,HB⟩
 have hne:=Classical.not_not.1 hne
 subst hne
 by_cases hne:¬s.size=0
 ·have HN:Hid (P=false):=Lib.hid (Bool.eq_false_iff.2 fun h=>hne (HP.out.1 h).2.2.1)
  have f0:=str_full s hne
  clear hne
  go_enter Tryz.func94,Tryz.ntmps94
  go_wp2_with fail
  go_ret
  exact⟨ret_b HN.out.symm,HB⟩
 have hne:=Classical.not_not.1 hne
 have hs:=str_nil s hne
 subst hs
 clear hne
 by_cases hne:¬err=0
 ·have HN:Hid (P=false):=Lib.hid (Bool.eq_false_iff.2 fun h=>hne (HP.out.1 h).2.2.2.1)
  have f0:(err != 0)=true:=by simpa using hne
  clear hne
  go_enter Tryz.func94,Tryz.ntmps94
  go_wp2_with fail
  go_ret
  exact⟨ret_b HN.out.symm,HB⟩
 have hne:=Classical.not_not.1 hne
 subst hne
 by_cases hne:¬rows=0
 ·have HN:Hid (P=false):=Lib.hid (Bool.eq_false_iff.2 fun h=>hne (HP.out.1 h).2.2.2.2.1)
  have f0:(rows != 0)=true:=by simpa using hne
  clear hne
  go_enter Tryz.func94,Tryz.ntmps94
  go_wp2_with fail
  go_ret
  exact⟨ret_b HN.out.symm,HB⟩
 have hne:=Classical.not_not.1 hne
 subst hne
 by_cases hne:¬cols=0
 ·have HN:Hid (P=false):=Lib.hid (Bool.eq_false_iff.2 fun h=>hne (HP.out.1 h).2.2.2.2.2.1)
  have f0:(cols != 0)=true:=by simpa using hne
  clear hne
  go_enter Tryz.func94,Tryz.ntmps94
  go_wp2_with fail
  go_ret
  exact⟨ret_b HN.out.symm,HB⟩
 have hne:=Classical.not_not.1 hne
 subst hne
 by_cases hne:¬nl=0
 ·have HN:Hid (P=false):=Lib.hid (Bool.eq_false_iff.2 fun h=>hne (HP.out.1 h).2.2.2.2.2.2.1)
  have f0:(0:Int)<(nl:Int):=by omega
  clear hne
  go_enter Tryz.func94,Tryz.ntmps94
  go_wp2_with fail
  go_ret
  exact⟨ret_b HN.out.symm,HB⟩
 have hne:=Classical.not_not.1 hne
 subst hne
 by_cases hne:¬fn=0
 ·have HN:Hid (P=false):=Lib.hid (Bool.eq_false_iff.2 fun h=>hne (HP.out.1 h).2.2.2.2.2.2.2.1)
  have f0:(fn==0)=false:=by simpa using hne
  clear hne
  go_enter Tryz.func94,Tryz.ntmps94
  go_wp2_with fail
  go_ret
  exact⟨ret_b HN.out.symm,HB⟩
 have hne:=Classical.not_not.1 hne
 subst hne
 by_cases hne:¬nb=0
 ·have HN:Hid (P=false):=Lib.hid (Bool.eq_false_iff.2 fun h=>hne (HP.out.1 h).2.2.2.2.2.2.2.2.1)
  have f0:((nb:Int)==0)=false:=by rw[beq_eq_false_iff_ne];omega
  clear hne
  go_enter Tryz.func94,Tryz.ntmps94
  go_wp2_with fail
  go_ret
  exact⟨ret_b HN.out.symm,HB⟩
 have hne:=Classical.not_not.1 hne
 subst hne
 by_cases hne:¬np=0
 ·have HN:Hid (P=false):=Lib.hid (Bool.eq_false_iff.2 fun h=>hne (HP.out.1 h).2.2.2.2.2.2.2.2.2)
  have f0:((np:Int)==0)=false:=by rw[beq_eq_false_iff_ne];omega
  clear hne
  go_enter Tryz.func94,Tryz.ntmps94
  go_wp2_with fail
  go_ret
  exact⟨ret_b HN.out.symm,HB⟩
 have hne:=Classical.not_not.1 hne
 subst hne
 have HN:Hid (P=true):=Lib.hid (HP.out.2 ⟨rfl,rfl,rfl,rfl,rfl,rfl,rfl,rfl,rfl,rfl⟩)
 go_enter Tryz.func94,Tryz.ntmps94
 go_wp2_with fail
 go_ret
 exact⟨ret_b HN.out.symm,HB⟩
set_option maxRecDepth 100000 in
set_option maxHeartbeats 16000000 in
theorem rbare_4 (x:Vl) (p p2 p3:Option Addr) (c c2 c3:Nat) (w:World):Calls Tryz.prog 94 #[.agg (vcs x (.slice p x.l.length c) (.slice p2 x.bl.length c2) (.slice p3 x.ps.length c3)),.int .i64 4] w (Gives (.bool (bareV x 4)) w):=by
 obtain⟨k0,m,e,s,b,err,rows,cols,l,fn,bl,ps⟩:=x
 obtain⟨P,hP⟩:∃P,bareV ⟨k0,m,e,s,b,err,rows,cols,l,fn,bl,ps⟩ 4=P:=⟨_,rfl⟩
 rw[hP]
 have HP:Hid (P=true↔(m=0)∧(e=0)∧(s.size=0)∧(b=false)∧(rows=0)∧(cols=0)∧(l.length=0)∧(fn=0)∧(bl.length=0)∧(ps.length=0)):=Lib.hid (by
  rw[←hP]
  unfold bareV
  simp<;>grind)
 obtain⟨C,hC⟩:∃C,vcs ⟨k0,m,e,s,b,err,rows,cols,l,fn,bl,ps⟩ (.slice p l.length c) (.slice p2 bl.length c2) (.slice p3 ps.length c3)=C:=⟨_,rfl⟩
 dsimp only
 rw[hC]
 have x1:C[1]? =some (.int .i64 m):=by rw[←hC];rfl
 have x2:C[2]? =some (.int .i64 e):=by rw[←hC];rfl
 have x3:C[3]? =some (.string s):=by rw[←hC];rfl
 have x4:C[4]? =some (.bool b):=by rw[←hC];rfl
 have x6:C[6]? =some (.int .i64 rows):=by rw[←hC];rfl
 have x7:C[7]? =some (.int .i64 cols):=by rw[←hC];rfl
 have x8:C[8]? =some (.slice p l.length c):=by rw[←hC];rfl
 have x9:C[9]? =some (.int .i64 fn):=by rw[←hC];rfl
 have x10:C[10]? =some (.slice p2 bl.length c2):=by rw[←hC];rfl
 have x11:C[11]? =some (.slice p3 ps.length c3):=by rw[←hC];rfl
 clear hC hP
 generalize l.length=nl at*
 generalize bl.length=nb at*
 generalize ps.length=np at*
 have HB:=(Below.refl w.heap.size w).alloc (Nat.le_refl _) (.cells C 34)
 have a9:∀f:Field,([f]:List Field)[0]? =some f:=fun _=>rfl
 have a90:∀f g:Field,([f,g]:List Field)[0]? =some f:=fun _ _=>rfl
 by_cases hne:¬m=0
 ·have HN:Hid (P=false):=Lib.hid (Bool.eq_false_iff.2 fun h=>hne (HP.out.1 h).1)
  have f0:(m != 0)=true:=by simpa using hne
  clear hne
  go_enter Tryz.func94,Tryz.ntmps94
  go_wp2_with fail
  go_ret
  exact⟨ret_b HN.out.symm,HB⟩
 have hne:=Classical.not_not.1 hne
 subst hne
 by_cases hne:¬e=0
 ·have HN:Hid (P=false):=Lib.hid (Bool.eq_false_iff.2 fun h=>hne (HP.out.1 h).2.1)
  have f0:(e != 0)=true:=by simpa using hne
  clear hne
  go_enter Tryz.func94,Tryz.ntmps94
  go_wp2_with fail
  go_ret
  exact⟨ret_b HN.out.symm,HB⟩
 have hne:=Classical.not_not.1 hne
 subst hne
 by_cases hne:¬s.size=0
 ·have HN:Hid (P=false):=Lib.hid (Bool.eq_false_iff.2 fun h=>hne (HP.out.1 h).2.2.1)
  have f0:=str_full s hne
  clear hne
  go_enter Tryz.func94,Tryz.ntmps94
  go_wp2_with fail
  go_ret
  exact⟨ret_b HN.out.symm,HB⟩
 have hne:=Classical.not_not.1 hne
 have hs:=str_nil s hne
 subst hs
 clear hne
 by_cases hne:¬b=false
 ·have HN:Hid (P=false):=Lib.hid (Bool.eq_false_iff.2 fun h=>hne (HP.out.1 h).2.2.2.1)
  have f0:b=true:=by simpa using hne
  subst f0
  clear hne
  go_enter Tryz.func94,Tryz.ntmps94
  go_wp2_with fail
  go_ret
  exact⟨ret_b HN.out.symm,HB⟩
 have hne:=Classical.not_not.1 hne
 subst hne
 by_cases hne:¬rows=0
 ·have HN:Hid (P=false):=Lib.hid (Bool.eq_false_iff.2 fun h=>hne (HP.out.1 h).2.2.2.2.1)
  have f0:(rows != 0)=true:=by simpa using hne
  clear hne
  go_enter Tryz.func94,Tryz.ntmps94
  go_wp2_with fail
  go_ret
  exact⟨ret_b HN.out.symm,HB⟩
 have hne:=Classical.not_not.1 hne
 subst hne
 by_cases hne:¬cols=0
 ·have HN:Hid (P=false):=Lib.hid (Bool.eq_false_iff.2 fun h=>hne (HP.out.1 h).2.2.2.2.2.1)
  have f0:(cols != 0)=true:=by simpa using hne
  clear hne
  go_enter Tryz.func94,Tryz.ntmps94
  go_wp2_with fail
  go_ret
  exact⟨ret_b HN.out.symm,HB⟩
 have hne:=Classical.not_not.1 hne
 subst hne
 by_cases hne:¬nl=0
 ·have HN:Hid (P=false):=Lib.hid (Bool.eq_false_iff.2 fun h=>hne (HP.out.1 h).2.2.2.2.2.2.1)
  have f0:(0:Int)<(nl:Int):=by omega
  clear hne
  go_enter Tryz.func94,Tryz.ntmps94
  go_wp2_with fail
  go_ret
  exact⟨ret_b HN.out.symm,HB⟩
 have hne:=Classical.not_not.1 hne
 subst hne
 by_cases hne:¬fn=0
 ·have HN:Hid (P=false):=Lib.hid (Bool.eq_false_iff.2 fun h=>hne (HP.out.1 h).2.2.2.2.2.2.2.1)
  have f0:(fn==0)=false:=by simpa using hne
  clear hne
  go_enter Tryz.func94,Tryz.ntmps94
  go_wp2_with fail
  go_ret
  exact⟨ret_b HN.out.symm,HB⟩
 have hne:=Classical.not_not.1 hne
 subst hne
 by_cases hne:¬nb=0
 ·have HN:Hid (P=false):=Lib.hid (Bool.eq_false_iff.2 fun h=>hne (HP.out.1 h).2.2.2.2.2.2.2.2.1)
  have f0:((nb:Int)==0)=false:=by rw[beq_eq_false_iff_ne];omega
  clear hne
  go_enter Tryz.func94,Tryz.ntmps94
  go_wp2_with fail
  go_ret
  exact⟨ret_b HN.out.symm,HB⟩
 have hne:=Classical.not_not.1 hne
 subst hne
 by_cases hne:¬np=0
 ·have HN:Hid (P=false):=Lib.hid (Bool.eq_false_iff.2 fun h=>hne (HP.out.1 h).2.2.2.2.2.2.2.2.2)
  have f0:((np:Int)==0)=false:=by rw[beq_eq_false_iff_ne];omega
  clear hne
  go_enter Tryz.func94,Tryz.ntmps94
  go_wp2_with fail
  go_ret
  exact⟨ret_b HN.out.symm,HB⟩
 have hne:=Classical.not_not.1 hne
 subst hne
 have HN:Hid (P=true):=Lib.hid (HP.out.2 ⟨rfl,rfl,rfl,rfl,rfl,rfl,rfl,rfl,rfl,rfl⟩)
 go_enter Tryz.func94,Tryz.ntmps94
 go_wp2_with fail
 go_ret
 exact⟨ret_b HN.out.symm,HB⟩
set_option maxRecDepth 100000 in
set_option maxHeartbeats 16000000 in
theorem rbare_5 (x:Vl) (p p2 p3:Option Addr) (c c2 c3:Nat) (w:World):Calls Tryz.prog 94 #[.agg (vcs x (.slice p x.l.length c) (.slice p2 x.bl.length c2) (.slice p3 x.ps.length c3)),.int .i64 5] w (Gives (.bool (bareV x 5)) w):=by
 obtain⟨k0,m,e,s,b,err,rows,cols,l,fn,bl,ps⟩:=x
 obtain⟨P,hP⟩:∃P,bareV ⟨k0,m,e,s,b,err,rows,cols,l,fn,bl,ps⟩ 5=P:=⟨_,rfl⟩
 rw[hP]
 have HP:Hid (P=true↔(m=0)∧(e=0)∧(s.size=0)∧(b=false)∧(err=0)∧(fn=0)∧(bl.length=0)∧(ps.length=0)):=Lib.hid (by
  rw[←hP]
  unfold bareV
  simp<;>grind)
 obtain⟨C,hC⟩:∃C,vcs ⟨k0,m,e,s,b,err,rows,cols,l,fn,bl,ps⟩ (.slice p l.length c) (.slice p2 bl.length c2) (.slice p3 ps.length c3)=C:=⟨_,rfl⟩
 dsimp only
 rw[hC]
 have x1:C[1]? =some (.int .i64 m):=by rw[←hC];rfl
 have x2:C[2]? =some (.int .i64 e):=by rw[←hC];rfl
 have x3:C[3]? =some (.string s):=by rw[←hC];rfl
 have x4:C[4]? =some (.bool b):=by rw[←hC];rfl
 have x5:C[5]? =some (.int .i64 err):=by rw[←hC];rfl
 have x9:C[9]? =some (.int .i64 fn):=by rw[←hC];rfl
 have x10:C[10]? =some (.slice p2 bl.length c2):=by rw[←hC];rfl
 have x11:C[11]? =some (.slice p3 ps.length c3):=by rw[←hC];rfl
 clear hC hP
 generalize l.length=nl at*
 generalize bl.length=nb at*
 generalize ps.length=np at*
 have HB:=(Below.refl w.heap.size w).alloc (Nat.le_refl _) (.cells C 34)
 have a9:∀f:Field,([f]:List Field)[0]? =some f:=fun _=>rfl
 have a90:∀f g:Field,([f,g]:List Field)[0]? =some f:=fun _ _=>rfl
 by_cases hne:¬m=0
 ·have HN:Hid (P=false):=Lib.hid (Bool.eq_false_iff.2 fun h=>hne (HP.out.1 h).1)
  have f0:(m != 0)=true:=by simpa using hne
  clear hne
  go_enter Tryz.func94,Tryz.ntmps94
  go_wp2_with fail
  go_ret
  exact⟨ret_b HN.out.symm,HB⟩
 have hne:=Classical.not_not.1 hne
 subst hne
 by_cases hne:¬e=0
 ·have HN:Hid (P=false):=Lib.hid (Bool.eq_false_iff.2 fun h=>hne (HP.out.1 h).2.1)
  have f0:(e != 0)=true:=by simpa using hne
  clear hne
  go_enter Tryz.func94,Tryz.ntmps94
  go_wp2_with fail
  go_ret
  exact⟨ret_b HN.out.symm,HB⟩
 have hne:=Classical.not_not.1 hne
 subst hne
 by_cases hne:¬s.size=0
 ·have HN:Hid (P=false):=Lib.hid (Bool.eq_false_iff.2 fun h=>hne (HP.out.1 h).2.2.1)
  have f0:=str_full s hne
  clear hne
  go_enter Tryz.func94,Tryz.ntmps94
  go_wp2_with fail
  go_ret
  exact⟨ret_b HN.out.symm,HB⟩
 have hne:=Classical.not_not.1 hne
 have hs:=str_nil s hne
 subst hs
 clear hne
 by_cases hne:¬b=false
 ·have HN:Hid (P=false):=Lib.hid (Bool.eq_false_iff.2 fun h=>hne (HP.out.1 h).2.2.2.1)
  have f0:b=true:=by simpa using hne
  subst f0
  clear hne
  go_enter Tryz.func94,Tryz.ntmps94
  go_wp2_with fail
  go_ret
  exact⟨ret_b HN.out.symm,HB⟩
 have hne:=Classical.not_not.1 hne
 subst hne
 by_cases hne:¬err=0
 ·have HN:Hid (P=false):=Lib.hid (Bool.eq_false_iff.2 fun h=>hne (HP.out.1 h).2.2.2.2.1)
  have f0:(err != 0)=true:=by simpa using hne
  clear hne
  go_enter Tryz.func94,Tryz.ntmps94
  go_wp2_with fail
  go_ret
  exact⟨ret_b HN.out.symm,HB⟩
 have hne:=Classical.not_not.1 hne
 subst hne
 by_cases hne:¬fn=0
 ·have HN:Hid (P=false):=Lib.hid (Bool.eq_false_iff.2 fun h=>hne (HP.out.1 h).2.2.2.2.2.1)
  have f0:(fn==0)=false:=by simpa using hne
  clear hne
  go_enter Tryz.func94,Tryz.ntmps94
  go_wp2_with fail
  go_ret
  exact⟨ret_b HN.out.symm,HB⟩
 have hne:=Classical.not_not.1 hne
 subst hne
 by_cases hne:¬nb=0
 ·have HN:Hid (P=false):=Lib.hid (Bool.eq_false_iff.2 fun h=>hne (HP.out.1 h).2.2.2.2.2.2.1)
  have f0:((nb:Int)==0)=false:=by rw[beq_eq_false_iff_ne];omega
  clear hne
  go_enter Tryz.func94,Tryz.ntmps94
  go_wp2_with fail
  go_ret
  exact⟨ret_b HN.out.symm,HB⟩
 have hne:=Classical.not_not.1 hne
 subst hne
 by_cases hne:¬np=0
 ·have HN:Hid (P=false):=Lib.hid (Bool.eq_false_iff.2 fun h=>hne (HP.out.1 h).2.2.2.2.2.2.2)
  have f0:((np:Int)==0)=false:=by rw[beq_eq_false_iff_ne];omega
  clear hne
  go_enter Tryz.func94,Tryz.ntmps94
  go_wp2_with fail
  go_ret
  exact⟨ret_b HN.out.symm,HB⟩
 have hne:=Classical.not_not.1 hne
 subst hne
 have HN:Hid (P=true):=Lib.hid (HP.out.2 ⟨rfl,rfl,rfl,rfl,rfl,rfl,rfl,rfl⟩)
 go_enter Tryz.func94,Tryz.ntmps94
 go_wp2_with fail
 go_ret
 exact⟨ret_b HN.out.symm,HB⟩
set_option maxRecDepth 100000 in
set_option maxHeartbeats 16000000 in
theorem rbare_6 (x:Vl) (p p2 p3:Option Addr) (c c2 c3:Nat) (w:World):Calls Tryz.prog 94 #[.agg (vcs x (.slice p x.l.length c) (.slice p2 x.bl.length c2) (.slice p3 x.ps.length c3)),.int .i64 6] w (Gives (.bool (bareV x 6)) w):=by
 obtain⟨k0,m,e,s,b,err,rows,cols,l,fn,bl,ps⟩:=x
 obtain⟨P,hP⟩:∃P,bareV ⟨k0,m,e,s,b,err,rows,cols,l,fn,bl,ps⟩ 6=P:=⟨_,rfl⟩
 rw[hP]
 have HP:Hid (P=true↔(m=0)∧(e=0)∧(b=false)∧(err=0)∧(rows=0)∧(cols=0)):=Lib.hid (by
  rw[←hP]
  unfold bareV
  simp<;>grind)
 obtain⟨C,hC⟩:∃C,vcs ⟨k0,m,e,s,b,err,rows,cols,l,fn,bl,ps⟩ (.slice p l.length c) (.slice p2 bl.length c2) (.slice p3 ps.length c3)=C:=⟨_,rfl⟩
 dsimp only
 rw[hC]
 have x1:C[1]? =some (.int .i64 m):=by rw[←hC];rfl
 have x2:C[2]? =some (.int .i64 e):=by rw[←hC];rfl
 have x4:C[4]? =some (.bool b):=by rw[←hC];rfl
 have x5:C[5]? =some (.int .i64 err):=by rw[←hC];rfl
 have x6:C[6]? =some (.int .i64 rows):=by rw[←hC];rfl
 have x7:C[7]? =some (.int .i64 cols):=by rw[←hC];rfl
 clear hC hP
 generalize l.length=nl at*
 generalize bl.length=nb at*
 generalize ps.length=np at*
 have HB:=(Below.refl w.heap.size w).alloc (Nat.le_refl _) (.cells C 34)
 have a9:∀f:Field,([f]:List Field)[0]? =some f:=fun _=>rfl
 have a90:∀f g:Field,([f,g]:List Field)[0]? =some f:=fun _ _=>rfl
 by_cases hne:¬m=0
 ·have HN:Hid (P=false):=Lib.hid (Bool.eq_false_iff.2 fun h=>hne (HP.out.1 h).1)
  have f0:(m != 0)=true:=by simpa using hne
  clear hne
  go_enter Tryz.func94,Tryz.ntmps94
  go_wp2_with fail
  go_ret
  exact⟨ret_b HN.out.symm,HB⟩
 have hne:=Classical.not_not.1 hne
 subst hne
 by_cases hne:¬e=0
 ·have HN:Hid (P=false):=Lib.hid (Bool.eq_false_iff.2 fun h=>hne (HP.out.1 h).2.1)
  have f0:(e != 0)=true:=by simpa using hne
  clear hne
  go_enter Tryz.func94,Tryz.ntmps94
  go_wp2_with fail
  go_ret
  exact⟨ret_b HN.out.symm,HB⟩
 have hne:=Classical.not_not.1 hne
 subst hne
 by_cases hne:¬b=false
 ·have HN:Hid (P=false):=Lib.hid (Bool.eq_false_iff.2 fun h=>hne (HP.out.1 h).2.2.1)
  have f0:b=true:=by simpa using hne
  subst f0
  clear hne
  go_enter Tryz.func94,Tryz.ntmps94
  go_wp2_with fail
  go_ret
  exact⟨ret_b HN.out.symm,HB⟩
 have hne:=Classical.not_not.1 hne
 subst hne
 by_cases hne:¬err=0
 ·have HN:Hid (P=false):=Lib.hid (Bool.eq_false_iff.2 fun h=>hne (HP.out.1 h).2.2.2.1)
  have f0:(err != 0)=true:=by simpa using hne
  clear hne
  go_enter Tryz.func94,Tryz.ntmps94
  go_wp2_with fail
  go_ret
  exact⟨ret_b HN.out.symm,HB⟩
 have hne:=Classical.not_not.1 hne
 subst hne
 by_cases hne:¬rows=0
 ·have HN:Hid (P=false):=Lib.hid (Bool.eq_false_iff.2 fun h=>hne (HP.out.1 h).2.2.2.2.1)
  have f0:(rows != 0)=true:=by simpa using hne
  clear hne
  go_enter Tryz.func94,Tryz.ntmps94
  go_wp2_with fail
  go_ret
  exact⟨ret_b HN.out.symm,HB⟩
 have hne:=Classical.not_not.1 hne
 subst hne
 by_cases hne:¬cols=0
 ·have HN:Hid (P=false):=Lib.hid (Bool.eq_false_iff.2 fun h=>hne (HP.out.1 h).2.2.2.2.2)
  have f0:(cols != 0)=true:=by simpa using hne
  clear hne
  go_enter Tryz.func94,Tryz.ntmps94
  go_wp2_with fail
  go_ret
  exact⟨ret_b HN.out.symm,HB⟩
 have hne:=Classical.not_not.1 hne
 subst hne
 have HN:Hid (P=true):=Lib.hid (HP.out.2 ⟨rfl,rfl,rfl,rfl,rfl,rfl⟩)
 go_enter Tryz.func94,Tryz.ntmps94
 go_wp2_with fail
 go_ret
 exact⟨ret_b HN.out.symm,HB⟩
set_option maxRecDepth 100000 in
set_option maxHeartbeats 16000000 in
theorem rbare_0 (x:Vl) (p p2 p3:Option Addr) (c c2 c3:Nat) (w:World) (k:Int) (h1:k≠1) (h2:k≠2) (h3:k≠3) (h4:k≠4) (h5:k≠5) (h6:k≠6):Calls Tryz.prog 94 #[.agg (vcs x (.slice p x.l.length c) (.slice p2 x.bl.length c2) (.slice p3 x.ps.length c3)),.int .i64 k] w (Gives (.bool (bareV x k)) w):=by
 obtain⟨k0,m,e,s,b,err,rows,cols,l,fn,bl,ps⟩:=x
 obtain⟨P,hP⟩:∃P,bareV ⟨k0,m,e,s,b,err,rows,cols,l,fn,bl,ps⟩ k=P:=⟨_,rfl⟩
 rw[hP]
 have HP:Hid (P=true↔(m=0)∧(e=0)∧(s.size=0)∧(b=false)∧(err=0)∧(rows=0)∧(cols=0)∧(l.length=0)∧(fn=0)∧(bl.length=0)∧(ps.length=0)):=Lib.hid (by
  rw[←hP]
  unfold bareV
  simp[h1,h2,h3,h4,h5,h6]<;>grind)
 obtain⟨C,hC⟩:∃C,vcs ⟨k0,m,e,s,b,err,rows,cols,l,fn,bl,ps⟩ (.slice p l.length c) (.slice p2 bl.length c2) (.slice p3 ps.length c3)=C:=⟨_,rfl⟩
 dsimp only
 rw[hC]
 have x1:C[1]? =some (.int .i64 m):=by rw[←hC];rfl
 have x2:C[2]? =some (.int .i64 e):=by rw[←hC];rfl
 have x3:C[3]? =some (.string s):=by rw[←hC];rfl
 have x4:C[4]? =some (.bool b):=by rw[←hC];rfl
 have x5:C[5]? =some (.int .i64 err):=by rw[←hC];rfl
 have x6:C[6]? =some (.int .i64 rows):=by rw[←hC];rfl
 have x7:C[7]? =some (.int .i64 cols):=by rw[←hC];rfl
 have x8:C[8]? =some (.slice p l.length c):=by rw[←hC];rfl
 have x9:C[9]? =some (.int .i64 fn):=by rw[←hC];rfl
 have x10:C[10]? =some (.slice p2 bl.length c2):=by rw[←hC];rfl
 have x11:C[11]? =some (.slice p3 ps.length c3):=by rw[←hC];rfl
 clear hC hP
 generalize l.length=nl at*
 generalize bl.length=nb at*
 generalize ps.length=np at*
 have HB:=(Below.refl w.heap.size w).alloc (Nat.le_refl _) (.cells C 34)
 have a9:∀f:Field,([f]:List Field)[0]? =some f:=fun _=>rfl
 have a90:∀f g:Field,([f,g]:List Field)[0]? =some f:=fun _ _=>rfl
 have f1:(k != 1)=true:=by simpa using h1
 have f2:(k != 2)=true:=by simpa using h2
 have f3:(k != 3)=true:=by simpa using h3
 have f4:(k != 4)=true:=by simpa using h4
 have f5:(k != 5)=true:=by simpa using h5
 have f6:(k != 6)=true:=by simpa using h6
 have f7:(k==6)=false:=by simpa using h6
 clear h1 h2 h3 h4 h5 h6
 by_cases hne:¬m=0
 ·have HN:Hid (P=false):=Lib.hid (Bool.eq_false_iff.2 fun h=>hne (HP.out.1 h).1)
  have f0:(m != 0)=true:=by simpa using hne
  clear hne
  go_enter Tryz.func94,Tryz.ntmps94
  go_wp2_with fail
  go_ret
  exact⟨ret_b HN.out.symm,HB⟩
 have hne:=Classical.not_not.1 hne
 subst hne
 by_cases hne:¬e=0
 ·have HN:Hid (P=false):=Lib.hid (Bool.eq_false_iff.2 fun h=>hne (HP.out.1 h).2.1)
  have f0:(e != 0)=true:=by simpa using hne
  clear hne
  go_enter Tryz.func94,Tryz.ntmps94
  go_wp2_with fail
  go_ret
  exact⟨ret_b HN.out.symm,HB⟩
 have hne:=Classical.not_not.1 hne
 subst hne
 by_cases hne:¬s.size=0
 ·have HN:Hid (P=false):=Lib.hid (Bool.eq_false_iff.2 fun h=>hne (HP.out.1 h).2.2.1)
  have f0:=str_full s hne
  clear hne
  go_enter Tryz.func94,Tryz.ntmps94
  go_wp2_with fail
  go_ret
  exact⟨ret_b HN.out.symm,HB⟩
 have hne:=Classical.not_not.1 hne
 have hs:=str_nil s hne
 subst hs
 clear hne
 by_cases hne:¬b=false
 ·have HN:Hid (P=false):=Lib.hid (Bool.eq_false_iff.2 fun h=>hne (HP.out.1 h).2.2.2.1)
  have f0:b=true:=by simpa using hne
  subst f0
  clear hne
  go_enter Tryz.func94,Tryz.ntmps94
  go_wp2_with fail
  go_ret
  exact⟨ret_b HN.out.symm,HB⟩
 have hne:=Classical.not_not.1 hne
 subst hne
 by_cases hne:¬err=0
 ·have HN:Hid (P=false):=Lib.hid (Bool.eq_false_iff.2 fun h=>hne (HP.out.1 h).2.2.2.2.1)
  have f0:(err != 0)=true:=by simpa using hne
  clear hne
  go_enter Tryz.func94,Tryz.ntmps94
  go_wp2_with fail
  go_ret
  exact⟨ret_b HN.out.symm,HB⟩
 have hne:=Classical.not_not.1 hne
 subst hne
 by_cases hne:¬rows=0
 ·have HN:Hid (P=false):=Lib.hid (Bool.eq_false_iff.2 fun h=>hne (HP.out.1 h).2.2.2.2.2.1)
  have f0:(rows != 0)=true:=by simpa using hne
  clear hne
  go_enter Tryz.func94,Tryz.ntmps94
  go_wp2_with fail
  go_ret
  exact⟨ret_b HN.out.symm,HB⟩
 have hne:=Classical.not_not.1 hne
 subst hne
 by_cases hne:¬cols=0
 ·have HN:Hid (P=false):=Lib.hid (Bool.eq_false_iff.2 fun h=>hne (HP.out.1 h).2.2.2.2.2.2.1)
  have f0:(cols != 0)=true:=by simpa using hne
  clear hne
  go_enter Tryz.func94,Tryz.ntmps94
  go_wp2_with fail
  go_ret
  exact⟨ret_b HN.out.symm,HB⟩
 have hne:=Classical.not_not.1 hne
 subst hne
 by_cases hne:¬nl=0
 ·have HN:Hid (P=false):=Lib.hid (Bool.eq_false_iff.2 fun h=>hne (HP.out.1 h).2.2.2.2.2.2.2.1)
  have f0:(0:Int)<(nl:Int):=by omega
  clear hne
  go_enter Tryz.func94,Tryz.ntmps94
  go_wp2_with fail
  go_ret
  exact⟨ret_b HN.out.symm,HB⟩
 have hne:=Classical.not_not.1 hne
 subst hne
 by_cases hne:¬fn=0
 ·have HN:Hid (P=false):=Lib.hid (Bool.eq_false_iff.2 fun h=>hne (HP.out.1 h).2.2.2.2.2.2.2.2.1)
  have f0:(fn==0)=false:=by simpa using hne
  clear hne
  go_enter Tryz.func94,Tryz.ntmps94
  go_wp2_with fail
  go_ret
  exact⟨ret_b HN.out.symm,HB⟩
 have hne:=Classical.not_not.1 hne
 subst hne
 by_cases hne:¬nb=0
 ·have HN:Hid (P=false):=Lib.hid (Bool.eq_false_iff.2 fun h=>hne (HP.out.1 h).2.2.2.2.2.2.2.2.2.1)
  have f0:((nb:Int)==0)=false:=by rw[beq_eq_false_iff_ne];omega
  clear hne
  go_enter Tryz.func94,Tryz.ntmps94
  go_wp2_with fail
  go_ret
  exact⟨ret_b HN.out.symm,HB⟩
 have hne:=Classical.not_not.1 hne
 subst hne
 by_cases hne:¬np=0
 ·have HN:Hid (P=false):=Lib.hid (Bool.eq_false_iff.2 fun h=>hne (HP.out.1 h).2.2.2.2.2.2.2.2.2.2)
  have f0:((np:Int)==0)=false:=by rw[beq_eq_false_iff_ne];omega
  clear hne
  go_enter Tryz.func94,Tryz.ntmps94
  go_wp2_with fail
  go_ret
  exact⟨ret_b HN.out.symm,HB⟩
 have hne:=Classical.not_not.1 hne
 subst hne
 have HN:Hid (P=true):=Lib.hid (HP.out.2 ⟨rfl,rfl,rfl,rfl,rfl,rfl,rfl,rfl,rfl,rfl,rfl⟩)
 go_enter Tryz.func94,Tryz.ntmps94
 go_wp2_with fail
 go_ret
 exact⟨ret_b HN.out.symm,HB⟩
/-- At any kind. -/
theorem rbare_any (x:Vl) (k:Int) (p p2 p3:Option Addr) (c c2 c3:Nat) (w:World):Calls Tryz.prog 94 #[.agg (vcs x (.slice p x.l.length c) (.slice p2 x.bl.length c2) (.slice p3 x.ps.length c3)),.int .i64 k] w (Gives (.bool (bareV x k)) w):=by
 by_cases h1:k=1
 ·subst h1;exact rbare_1 x p p2 p3 c c2 c3 w
 by_cases h2:k=2
 ·subst h2;exact rbare_2 x p p2 p3 c c2 c3 w
 by_cases h3:k=3
 ·subst h3;exact rbare_3 x p p2 p3 c c2 c3 w
 by_cases h4:k=4
 ·subst h4;exact rbare_4 x p p2 p3 c c2 c3 w
 by_cases h5:k=5
 ·subst h5;exact rbare_5 x p p2 p3 c c2 c3 w
 by_cases h6:k=6
 ·subst h6;exact rbare_6 x p p2 p3 c c2 c3 w
 exact rbare_0 x p p2 p3 c c2 c3 w k h1 h2 h3 h4 h5 h6
end Go.Proofs.YtkhohjdakcchdaaGreatDoor
namespace Go.Proofs.YtkhohjdakcchdaaGreatDoor
open Go Go.RowKit Go.Shelf
/-- The shapes of a value's slices. -/
theorem Rp.shapes {w:World} {B n:Nat} {x:Vl} {v:Value} (h:Rp w B (n+1) x v):∃p p2 p3 c c2 c3,v= .agg (vcs x (.slice p x.l.length c) (.slice p2 x.bl.length c2) (.slice p3 x.ps.length c3))∧VOk x:=by
 obtain⟨L,Bs,Ps,rfl,hok,⟨p,c,rfl,_⟩,⟨p2,c2,rfl,_⟩,⟨p3,c3,rfl,_⟩,_⟩:=h
 exact⟨p,p2,p3,c,c2,c3,rfl,hok⟩
theorem plain_kinds (x:Vl) (b:Bool) (hb:bareV x x.k=b):plainV x=(b&&(if x.k=0∨x.k=3 then true else if x.k=1 then rightB x.m x.e else if x.k=2 then txtOk x.s else if x.k=4 then(decide (1≤x.err)&&decide (x.err≤9))else false)):=by
 unfold plainV
 rw[hb]
 congr 1
 by_cases h0:x.k=0
 ·simp[h0]
 by_cases h3:x.k=3
 ·simp[h3]
 by_cases h1:x.k=1
 ·simp[h1]
 by_cases h2:x.k=2
 ·simp[h2]
 by_cases h4:x.k=4
 ·simp[h4]
 ·simp[h0,h1,h2,h3,h4]
set_option maxRecDepth 100000 in
set_option maxHeartbeats 8000000 in
theorem rplain_sh (x:Vl) (p p2 p3:Option Addr) (c c2 c3:Nat) (w:World) (hok:VOk x):Calls Tryz.prog 93 #[.agg (vcs x (.slice p x.l.length c) (.slice p2 x.bl.length c2) (.slice p3 x.ps.length c3))] w (Gives (.bool (plainV x)) w):=by
 have HBA:=Lib.hid (fun W=>rbare_any x x.k p p2 p3 c c2 c3 W)
 obtain⟨bb,hbb⟩:∃bb,bareV x x.k=bb:=⟨_,rfl⟩
 rw[hbb]at HBA
 rw[plain_kinds x bb hbb]
 obtain⟨C,hC⟩:∃C,vcs x (.slice p x.l.length c) (.slice p2 x.bl.length c2) (.slice p3 x.ps.length c3)=C:=⟨_,rfl⟩
 have HO:Hid (OneC C):=Lib.hid (by rw[←hC];exact vcs_one _ _ _ _ _ _ _ _ _ _)
 have X0:Hid (C[0]? =some (.int .i64 x.k)):=Lib.hid (by rw[←hC];rfl)
 have X1:Hid (C[1]? =some (.int .i64 x.m)):=Lib.hid (by rw[←hC];rfl)
 have X2:Hid (C[2]? =some (.int .i64 x.e)):=Lib.hid (by rw[←hC];rfl)
 have X3:Hid (C[3]? =some (.string x.s)):=Lib.hid (by rw[←hC];rfl)
 have X5:Hid (C[5]? =some (.int .i64 x.err)):=Lib.hid (by rw[←hC];rfl)
 rw[hC]at HBA⊢
 have HRT:=Lib.hid (show ∀W,Calls Tryz.prog 90 #[.agg #[.int .i64 x.m,.int .i64 x.e]] W (fun e w'=>e= .returned (.bool (rightB x.m x.e))∧Below W.heap.size W w')from fun W=>rright_any x.m x.e W hok.m.1 hok.m.2)
 have HTX:=Lib.hid (show ∀W,Calls Tryz.prog 57 #[.string x.s] W (fun e w'=>e= .returned (.bool (txtOk x.s))∧w'=W)from fun W=>rtextok_any x.s W (by have:=hok.s;omega))
 clear hC hok hbb
 generalize x.k=k at*
 generalize x.m=m at*
 generalize x.e=e at*
 generalize x.s=s at*
 generalize x.err=er at*
 generalize rightB m e=rb at*
 generalize txtOk s=tb at*
 cases bb with
 |false=>
  rw[Bool.false_and]
  have x0:=X0.out
  go_enter Tryz.func93,Tryz.ntmps93
  go_wp2_with (refine wpList_load34 rfl rfl rfl (World.vb_new w C) HO.out.1 ?_)
  have hB:Below w.heap.size w (w.alloc (.cells C 34)):=(Below.refl _ w).alloc (Nat.le_refl _) _
  have hv:World.vb (w.alloc (.cells C 34)) w.heap.size C:=World.vb_new w C
  obtain⟨w0,hw0⟩:∃w0,w0=w.alloc (.cells C 34):=⟨_,rfl⟩
  rw[←hw0]at hB hv⊢
  clear hw0 x0
  refine(HBA.out _).mono ?_
  rintro e1 w1 ⟨rfl,hB1⟩
  have hv:=hv.below hB1 hv.lt
  have hB:=hB.trans (hB1.mono hB.size)
  clear hB1
  have c0:=hv.cell X0.out
  have c1:=hv.cell X1.out
  have c2:=hv.cell X2.out
  have c3:=hv.cell X3.out
  have c5:=hv.cell X5.out
  go_wp2_with fail
  go_ret
  exact⟨(by first|rfl|exact ret_b (by simp[e9])),hB⟩
 |true=>
  rw[Bool.true_and]
  by_cases h0:k=0
  ·subst h0
   have x0:=X0.out
   go_enter Tryz.func93,Tryz.ntmps93
   go_wp2_with (refine wpList_load34 rfl rfl rfl (World.vb_new w C) HO.out.1 ?_)
   have hB:Below w.heap.size w (w.alloc (.cells C 34)):=(Below.refl _ w).alloc (Nat.le_refl _) _
   have hv:World.vb (w.alloc (.cells C 34)) w.heap.size C:=World.vb_new w C
   obtain⟨w0,hw0⟩:∃w0,w0=w.alloc (.cells C 34):=⟨_,rfl⟩
   rw[←hw0]at hB hv⊢
   clear hw0 x0
   refine(HBA.out _).mono ?_
   rintro e1 w1 ⟨rfl,hB1⟩
   have hv:=hv.below hB1 hv.lt
   have hB:=hB.trans (hB1.mono hB.size)
   clear hB1
   have c0:=hv.cell X0.out
   have c1:=hv.cell X1.out
   have c2:=hv.cell X2.out
   have c3:=hv.cell X3.out
   have c5:=hv.cell X5.out
   go_wp2_with fail
   go_ret
   exact⟨(by first|rfl|exact ret_b (by simp[e9])),hB⟩
  by_cases h3:k=3
  ·subst h3
   have x0:=X0.out
   go_enter Tryz.func93,Tryz.ntmps93
   go_wp2_with (refine wpList_load34 rfl rfl rfl (World.vb_new w C) HO.out.1 ?_)
   have hB:Below w.heap.size w (w.alloc (.cells C 34)):=(Below.refl _ w).alloc (Nat.le_refl _) _
   have hv:World.vb (w.alloc (.cells C 34)) w.heap.size C:=World.vb_new w C
   obtain⟨w0,hw0⟩:∃w0,w0=w.alloc (.cells C 34):=⟨_,rfl⟩
   rw[←hw0]at hB hv⊢
   clear hw0 x0
   refine(HBA.out _).mono ?_
   rintro e1 w1 ⟨rfl,hB1⟩
   have hv:=hv.below hB1 hv.lt
   have hB:=hB.trans (hB1.mono hB.size)
   clear hB1
   have c0:=hv.cell X0.out
   have c1:=hv.cell X1.out
   have c2:=hv.cell X2.out
   have c3:=hv.cell X3.out
   have c5:=hv.cell X5.out
   go_wp2_with fail
   go_ret
   exact⟨(by first|rfl|exact ret_b (by simp[e9])),hB⟩
  rw[if_neg (by omega:¬(k=0∨k=3))]
  by_cases h1:k=1
  ·subst h1
   rw[if_pos rfl]
   have x0:=X0.out
   go_enter Tryz.func93,Tryz.ntmps93
   go_wp2_with (refine wpList_load34 rfl rfl rfl (World.vb_new w C) HO.out.1 ?_)
   have hB:Below w.heap.size w (w.alloc (.cells C 34)):=(Below.refl _ w).alloc (Nat.le_refl _) _
   have hv:World.vb (w.alloc (.cells C 34)) w.heap.size C:=World.vb_new w C
   obtain⟨w0,hw0⟩:∃w0,w0=w.alloc (.cells C 34):=⟨_,rfl⟩
   rw[←hw0]at hB hv⊢
   clear hw0 x0
   refine(HBA.out _).mono ?_
   rintro e1 w1 ⟨rfl,hB1⟩
   have hv:=hv.below hB1 hv.lt
   have hB:=hB.trans (hB1.mono hB.size)
   clear hB1
   have c0:=hv.cell X0.out
   have c1:=hv.cell X1.out
   have c2:=hv.cell X2.out
   have c3:=hv.cell X3.out
   have c5:=hv.cell X5.out
   go_wp2_with fail
   clear c0 c1 c2 c3 c5
   refine(HRT.out _).mono ?_
   rintro e2 w2 ⟨rfl,hB2⟩
   have hB:=hB.trans (hB2.mono hB.size)
   clear hB2 hv
   go_wp2_with fail
   go_ret
   exact⟨(by first|rfl|exact ret_b (by simp[e9])),hB⟩
  rw[if_neg h1]
  by_cases h2:k=2
  ·subst h2
   rw[if_pos rfl]
   have x0:=X0.out
   go_enter Tryz.func93,Tryz.ntmps93
   go_wp2_with (refine wpList_load34 rfl rfl rfl (World.vb_new w C) HO.out.1 ?_)
   have hB:Below w.heap.size w (w.alloc (.cells C 34)):=(Below.refl _ w).alloc (Nat.le_refl _) _
   have hv:World.vb (w.alloc (.cells C 34)) w.heap.size C:=World.vb_new w C
   obtain⟨w0,hw0⟩:∃w0,w0=w.alloc (.cells C 34):=⟨_,rfl⟩
   rw[←hw0]at hB hv⊢
   clear hw0 x0
   refine(HBA.out _).mono ?_
   rintro e1 w1 ⟨rfl,hB1⟩
   have hv:=hv.below hB1 hv.lt
   have hB:=hB.trans (hB1.mono hB.size)
   clear hB1
   have c0:=hv.cell X0.out
   have c1:=hv.cell X1.out
   have c2:=hv.cell X2.out
   have c3:=hv.cell X3.out
   have c5:=hv.cell X5.out
   go_wp2_with fail
   clear c0 c1 c2 c3 c5
   refine(HTX.out _).mono ?_
   rintro e2 w2 ⟨rfl,rfl⟩
   clear hv
   go_wp2_with fail
   go_ret
   exact⟨(by first|rfl|exact ret_b (by simp[e9])),hB⟩
  rw[if_neg h2]
  by_cases h4:k=4
  ·subst h4
   rw[if_pos rfl]
   by_cases e1:1≤er
   ·by_cases e9:er≤9
    ·have HN:Hid ((decide (1≤er)&&decide (er≤9))=true):=Lib.hid (by simp[e1,e9])
     rw[HN.out]
     have x0:=X0.out
     go_enter Tryz.func93,Tryz.ntmps93
     go_wp2_with (refine wpList_load34 rfl rfl rfl (World.vb_new w C) HO.out.1 ?_)
     have hB:Below w.heap.size w (w.alloc (.cells C 34)):=(Below.refl _ w).alloc (Nat.le_refl _) _
     have hv:World.vb (w.alloc (.cells C 34)) w.heap.size C:=World.vb_new w C
     obtain⟨w0,hw0⟩:∃w0,w0=w.alloc (.cells C 34):=⟨_,rfl⟩
     rw[←hw0]at hB hv⊢
     clear hw0 x0
     refine(HBA.out _).mono ?_
     rintro e1 w1 ⟨rfl,hB1⟩
     have hv:=hv.below hB1 hv.lt
     have hB:=hB.trans (hB1.mono hB.size)
     clear hB1
     have c0:=hv.cell X0.out
     have c1:=hv.cell X1.out
     have c2:=hv.cell X2.out
     have c3:=hv.cell X3.out
     have c5:=hv.cell X5.out
     go_wp2_with fail
     go_ret
     exact⟨(by first|rfl|exact ret_b (by simp[e9])),hB⟩
    ·have HN:Hid ((decide (1≤er)&&decide (er≤9))=false):=Lib.hid (by simp[e9])
     rw[HN.out]
     have x0:=X0.out
     go_enter Tryz.func93,Tryz.ntmps93
     go_wp2_with (refine wpList_load34 rfl rfl rfl (World.vb_new w C) HO.out.1 ?_)
     have hB:Below w.heap.size w (w.alloc (.cells C 34)):=(Below.refl _ w).alloc (Nat.le_refl _) _
     have hv:World.vb (w.alloc (.cells C 34)) w.heap.size C:=World.vb_new w C
     obtain⟨w0,hw0⟩:∃w0,w0=w.alloc (.cells C 34):=⟨_,rfl⟩
     rw[←hw0]at hB hv⊢
     clear hw0 x0
     refine(HBA.out _).mono ?_
     rintro e1 w1 ⟨rfl,hB1⟩
     have hv:=hv.below hB1 hv.lt
     have hB:=hB.trans (hB1.mono hB.size)
     clear hB1
     have c0:=hv.cell X0.out
     have c1:=hv.cell X1.out
     have c2:=hv.cell X2.out
     have c3:=hv.cell X3.out
     have c5:=hv.cell X5.out
     go_wp2_with fail
     go_ret
     exact⟨(by first|rfl|exact ret_b (by simp[e9])),hB⟩
   ·have HN:Hid ((decide (1≤er)&&decide (er≤9))=false):=Lib.hid (by simp[e1])
    rw[HN.out]
    have x0:=X0.out
    go_enter Tryz.func93,Tryz.ntmps93
    go_wp2_with (refine wpList_load34 rfl rfl rfl (World.vb_new w C) HO.out.1 ?_)
    have hB:Below w.heap.size w (w.alloc (.cells C 34)):=(Below.refl _ w).alloc (Nat.le_refl _) _
    have hv:World.vb (w.alloc (.cells C 34)) w.heap.size C:=World.vb_new w C
    obtain⟨w0,hw0⟩:∃w0,w0=w.alloc (.cells C 34):=⟨_,rfl⟩
    rw[←hw0]at hB hv⊢
    clear hw0 x0
    refine(HBA.out _).mono ?_
    rintro e1 w1 ⟨rfl,hB1⟩
    have hv:=hv.below hB1 hv.lt
    have hB:=hB.trans (hB1.mono hB.size)
    clear hB1
    have c0:=hv.cell X0.out
    have c1:=hv.cell X1.out
    have c2:=hv.cell X2.out
    have c3:=hv.cell X3.out
    have c5:=hv.cell X5.out
    go_wp2_with fail
    go_ret
    exact⟨(by first|rfl|exact ret_b (by simp[e9])),hB⟩
  rw[if_neg h4]
  have g0:(k==0)=false:=by simpa using h0
  have g1:(k==1)=false:=by simpa using h1
  have g2:(k==2)=false:=by simpa using h2
  have g3:(k==3)=false:=by simpa using h3
  have g4:(k==4)=false:=by simpa using h4
  clear h0 h1 h2 h3 h4
  have x0:=X0.out
  go_enter Tryz.func93,Tryz.ntmps93
  go_wp2_with (refine wpList_load34 rfl rfl rfl (World.vb_new w C) HO.out.1 ?_)
  have hB:Below w.heap.size w (w.alloc (.cells C 34)):=(Below.refl _ w).alloc (Nat.le_refl _) _
  have hv:World.vb (w.alloc (.cells C 34)) w.heap.size C:=World.vb_new w C
  obtain⟨w0,hw0⟩:∃w0,w0=w.alloc (.cells C 34):=⟨_,rfl⟩
  rw[←hw0]at hB hv⊢
  clear hw0 x0
  refine(HBA.out _).mono ?_
  rintro e1 w1 ⟨rfl,hB1⟩
  have hv:=hv.below hB1 hv.lt
  have hB:=hB.trans (hB1.mono hB.size)
  clear hB1
  have c0:=hv.cell X0.out
  have c1:=hv.cell X1.out
  have c2:=hv.cell X2.out
  have c3:=hv.cell X3.out
  have c5:=hv.cell X5.out
  go_wp2_with fail
  go_ret
  exact⟨(by first|rfl|exact ret_b (by simp[e9])),hB⟩
theorem rplain_any (n:Nat) (x:Vl) (v:Value) (w:World) (hx:Rp w w.heap.size (n+1) x v):Calls Tryz.prog 93 #[v] w (Gives (.bool (plainV x)) w):=by
 obtain⟨p,p2,p3,c,c2,c3,rfl,hok⟩:=hx.shapes
 exact rplain_sh x p p2 p3 c c2 c3 w hok
end Go.Proofs.YtkhohjdakcchdaaGreatDoor
namespace Go.Proofs.YtkhohjdakcchdaaGreatDoor
open Go Go.RowKit Go.Shelf
theorem right_step (n:Nat) (x:Vl):rightV (n+1) x=if x.k=5 then dimsB x&&(bareV x 5&&x.l.all plainV)else if x.k=6 then codeB x&&(bareV x 6&&x.l.all (rightV n))else plainV x:=rfl
theorem all_miss {f:Vl→Bool} {l:List Vl} {i:Nat} {y:Vl} (hy:l[i]? =some y) (h:f y=false):l.all f=false:=by
 rw[Bool.eq_false_iff]
 intro e
 have:=List.all_eq_true.1 e y (List.mem_of_getElem? hy)
 rw[h]at this;cases this
theorem all_hit {f:Vl→Bool} {l:List Vl} (h:∀(i:Nat) (y:Vl),l[i]? =some y→f y=true):l.all f=true:=by
 rw[List.all_eq_true]
 intro y hy
 obtain⟨i,hi⟩:=List.getElem?_of_mem hy
 exact h i y hi
set_option maxRecDepth 100000 in
set_option maxHeartbeats 16000000 in
theorem rright_step (n:Nat) (IH:∀(x:Vl) (v:Value) (w:World),Rp w w.heap.size n x v→Calls Tryz.prog 38 #[v] w (Gives (.bool (rightV n x)) w))
 (x:Vl) (v:Value) (w:World) (hx:Rp w w.heap.size (n+1) x v):Calls Tryz.prog 38 #[v] w (Gives (.bool (rightV (n+1) x)) w):=by
 have HPL:=Lib.hid (show ∀W,Below w.heap.size w W→w.heap.size≤W.heap.size→Calls Tryz.prog 93 #[v] W (Gives (.bool (plainV x)) W)from fun W hW hz=>rplain_any n x v W (hx.below hW hz))
 obtain⟨L,Bs,Ps,rfl,hok,⟨p,c,rfl,hl1,hl2,hl3,_,HL⟩,⟨p2,c2,rfl,hb1,hb2,hb3,_⟩,⟨p3,c3,rfl,hp1,hp2,hp3,_⟩,_⟩:=hx
 have HBA:=Lib.hid (fun W=>rbare_any x x.k p p2 p3 c c2 c3 W)
 have HIH:=Lib.hid IH
 have HEL:=Lib.hid HL
 have HR:=Lib.hid (right_step n x)
 obtain⟨C,hC⟩:∃C,vcs x (.slice p x.l.length c) (.slice p2 x.bl.length c2) (.slice p3 x.ps.length c3)=C:=⟨_,rfl⟩
 have HO:Hid (OneC C):=Lib.hid (by rw[←hC];exact vcs_one _ _ _ _ _ _ _ _ _ _)
 have X0:Hid (C[0]? =some (.int .i64 x.k)):=Lib.hid (by rw[←hC];rfl)
 have X6:Hid (C[6]? =some (.int .i64 x.rows)):=Lib.hid (by rw[←hC];rfl)
 have X7:Hid (C[7]? =some (.int .i64 x.cols)):=Lib.hid (by rw[←hC];rfl)
 have X8:Hid (C[8]? =some (.slice p x.l.length c)):=Lib.hid (by rw[←hC];rfl)
 have X9:Hid (C[9]? =some (.int .i64 x.fn)):=Lib.hid (by rw[←hC];rfl)
 have X10:Hid (C[10]? =some (.slice p2 x.bl.length c2)):=Lib.hid (by rw[←hC];rfl)
 have X11:Hid (C[11]? =some (.slice p3 x.ps.length c3)):=Lib.hid (by rw[←hC];rfl)
 rw[hC]at HBA HPL⊢
 have hr:=hok.rows
 have hc:=hok.cols
 have hfn:=hok.fn
 unfold i64R at hr hc hfn
 obtain⟨R,hRR⟩:∃R,rightV (n+1) x=R:=⟨_,rfl⟩
 rw[hRR]at HR⊢
 have HDM:Hid (dimsB x=true↔(1≤x.rows∧1≤x.cols∧x.rows≤400∧x.cols≤400∧x.rows*x.cols≤400∧(x.l.length:Int)=x.rows*x.cols)):=Lib.hid (by unfold dimsB;exact decide_eq_true_iff)
 have HCD:Hid (codeB x=true↔(1≤x.bl.length∧x.bl.length≤20∧x.ps.length=x.bl.length∧0≤x.fn∧x.fn<(x.bl.length:Int)∧x.l.length≤40)):=Lib.hid (by unfold codeB;exact decide_eq_true_iff)
 have HPK:=Lib.hid (plain_kinds x _ rfl)
 have HBX:=Lib.hid (fun k (h:x.k=k)=>congrArg (bareV x) h)
 clear hC hok hRR IH HL
 generalize dimsB x=D at*
 generalize codeB x=CB at*
 generalize plainV x=PB at*
 generalize x.k=k at*
 generalize x.rows=r at*
 generalize x.cols=c' at*
 generalize x.fn=fn at*
 generalize x.bl.length=nb at*
 generalize x.ps.length=np at*
 unfold maxLen at hl2 hb2 hp2
 have x0:=X0.out
 have hB:Below w.heap.size w (w.alloc (.cells C 34)):=(Below.refl _ w).alloc (Nat.le_refl _) _
 have hv:World.vb (w.alloc (.cells C 34)) w.heap.size C:=World.vb_new w C
 by_cases hk5:k<5
 ·have HN:Hid (R=PB):=Lib.hid (by rw[HR.out,if_neg (by omega),if_neg (by omega)])
  go_enter Tryz.func38,Tryz.ntmps38
  go_wp2_with (refine wpList_load34 rfl rfl rfl hv HO.out.1 ?_)
  refine(HPL.out _ hB hB.size).mono ?_
  rintro e1 w1 ⟨rfl,hB1⟩
  have hB:=hB.trans (hB1.mono hB.size)
  clear hB1 hv
  go_wp2_with fail
  go_ret
  exact⟨ret_b HN.out.symm,hB⟩
 go_enter Tryz.func38,Tryz.ntmps38
 go_wp2_with (refine wpList_load34 rfl rfl rfl hv HO.out.1 ?_)
 obtain⟨w0,hw0⟩:∃w0,w0=w.alloc (.cells C 34):=⟨_,rfl⟩
 rw[←hw0]at hB hv⊢
 clear hw0 x0
 obtain⟨bb,hbb⟩:∃bb,bareV x k=bb:=⟨_,rfl⟩
 rw[hbb]at HBA
 refine(HBA.out _).mono ?_
 rintro e1 w1 ⟨rfl,hB1⟩
 have hv:=hv.below hB1 hv.lt
 have hB:=hB.trans (hB1.mono hB.size)
 clear hB1 HBA
 have c0:=hv.cell X0.out
 cases bb with
 |false=>
  have HN:Hid (R=false):=Lib.hid (by
   rw[HR.out]
   split
   ·rename_i e;rw[e]at hbb;rw[hbb];simp
   split
   ·rename_i e;rw[e]at hbb;rw[hbb];simp
   ·rw[HPK.out,hbb];rfl)
  clear hbb
  go_wp2_with fail
  go_ret
  exact⟨ret_b HN.out.symm,hB⟩
 |true=>
  have HBB:=Lib.hid hbb
  clear hbb
  by_cases h5:k=5
  ·subst h5
   have HN0:Hid (R=(D&&x.l.all plainV)):=Lib.hid (by rw[HR.out,if_pos rfl,HBB.out,Bool.true_and])
   have c6:=hv.cell X6.out
   have c7:=hv.cell X7.out
   have c8:=hv.cell X8.out
   by_cases a1:r<1
   ·have HN:Hid (R=false):=Lib.hid (by
     have:D=false:=Bool.eq_false_iff.2 fun h=>by have:=HDM.out.1 h;omega
     rw[HN0.out,this];rfl)
    go_wp2_with fail
    go_ret
    exact⟨ret_b HN.out.symm,hB⟩
   by_cases a2:c'<1
   ·have HN:Hid (R=false):=Lib.hid (by
     have:D=false:=Bool.eq_false_iff.2 fun h=>by have:=HDM.out.1 h;omega
     rw[HN0.out,this];rfl)
    go_wp2_with fail
    go_ret
    exact⟨ret_b HN.out.symm,hB⟩
   by_cases a3:400<r
   ·have HN:Hid (R=false):=Lib.hid (by
     have:D=false:=Bool.eq_false_iff.2 fun h=>by have:=HDM.out.1 h;omega
     rw[HN0.out,this];rfl)
    go_wp2_with fail
    go_ret
    exact⟨ret_b HN.out.symm,hB⟩
   by_cases a4:400<c'
   ·have HN:Hid (R=false):=Lib.hid (by
     have:D=false:=Bool.eq_false_iff.2 fun h=>by have:=HDM.out.1 h;omega
     rw[HN0.out,this];rfl)
    go_wp2_with fail
    go_ret
    exact⟨ret_b HN.out.symm,hB⟩
   have hm0:0≤r*c':=Int.mul_nonneg (by omega) (by omega)
   have hm1:r*c'≤400*400:=Int.mul_le_mul (by omega) (by omega) (by omega) (by omega)
   obtain⟨m,hm⟩:∃m,r*c'=m:=⟨_,rfl⟩
   rw[hm]at hm0 hm1 HDM
   by_cases a5:400<m
   ·have HN:Hid (R=false):=Lib.hid (by
     have:D=false:=Bool.eq_false_iff.2 fun h=>by have:=HDM.out.1 h;omega
     rw[HN0.out,this];rfl)
    go_wp2_with fail
    go_ret
    exact⟨ret_b HN.out.symm,hB⟩
   by_cases a6:¬(x.l.length:Int)=m
   ·have HN:Hid (R=false):=Lib.hid (by
     have:D=false:=Bool.eq_false_iff.2 fun h=>by have:=HDM.out.1 h;omega
     rw[HN0.out,this];rfl)
    have f6:((x.l.length:Int) != m)=true:=by simpa using a6
    clear a6
    go_wp2_with fail
    go_ret
    exact⟨ret_b HN.out.symm,hB⟩
   have a6:=Classical.not_not.1 a6
   have f6:((x.l.length:Int) != m)=false:=by simpa using a6
   have HN1:Hid (R=x.l.all plainV):=Lib.hid (by rw[HN0.out,HDM.out.2 (by omega),Bool.true_and])
   clear a6 HN0
   have hn0:∀y v,(∃W,Rp W W.heap.size n y v)→∃m,n=m+1:=fun y v ⟨W,h⟩=>by cases n with
    |zero=>exact h.elim
    |succ m=>exact⟨m,rfl⟩
   have HN0:=Lib.hid hn0
   clear hn0
   go_wp2_with fail
   go_loopw [3] (fun i wr=>∃K:Nat,K≤x.l.length∧i= .int .i64 (K:Int)∧Below w.heap.size w wr∧World.vb wr w.heap.size C∧Hid (∀i y,i<K→x.l[i]? =some y→plainV y=true)) (fun i _=>x.l.length-(intOf i).toNat)
   case atStart=>exact⟨0,Nat.zero_le _,rfl,hB,hv,Lib.hid fun i y h=>by omega⟩
   case round=>
    clear c8 hB hv
    obtain⟨K,hK,rfl,hB,hv,HE⟩:=hrel
    have c8:=hv.cell X8.out
    by_cases hlt:K<x.l.length
    ·have hKI:(K:Int)<(x.l.length:Int):=by omega
     obtain⟨y,hy⟩:∃y,x.l[K]? =some y:=⟨_,List.getElem?_eq_getElem hlt⟩
     obtain⟨g,off,cs,rfl,hg,hs,hx1,hx2⟩:=HEL.out K y hy
     have HCC:=Lib.hid (show ∀W,Below w.heap.size w W→∀j u,cs[j]? =some u→W.cell? ⟨g,off+K*12+j,none⟩=some u from fun W hW j u hj=>(hW.cell (p:=⟨g,_,none⟩) hg).trans (hx2 j u hj))
     have HOO:=Lib.hid hx1.one
     have HFY:=Lib.hid (show ∀W,Below w.heap.size w W→w.heap.size≤W.heap.size→Calls Tryz.prog 93 #[.agg cs] W (Gives (.bool (plainV y)) W)from fun W hW hz=>by
      have h9:Rp W W.heap.size n y (.agg cs):=hx1.below hW hz
      obtain⟨m9,e9⟩:=HN0.out _ _ ⟨W,h9⟩
      subst e9
      exact rplain_any m9 y _ W h9)
     have Hy:=Lib.hid hy
     obtain⟨fy,hfy⟩:∃b,plainV y=b:=⟨_,rfl⟩
     rw[hfy]at HFY
     have HF:=Lib.hid hfy
     clear hy hx1 hx2 hs hfy
     go_wp2_with (refine wpList_load34at rfl rfl rfl HOO.out.1 (HCC.out _ hB) ?_)
     refine(HFY.out _ hB hB.size).mono ?_
     rintro e3 w3 ⟨rfl,hB3⟩
     have hv:=hv.below hB3 hv.lt
     have hB:=hB.trans (hB3.mono hB.size)
     clear hB3 c8
     have c8:=hv.cell X8.out
     cases fy with
     |true=>
      have HE':Hid (∀i y,i<K+1→x.l[i]? =some y→plainV y=true):=Lib.hid fun i z hi hz=>by
       by_cases e:i=K
       ·subst e;rw[Hy.out]at hz;injection hz with hz;rw[←hz];exact HF.out
       ·exact HE.out i z (by omega) hz
      go_wp2_with fail
      go_roundw
      case rel=>exact⟨K+1,by omega,by go_num,hB,hv,HE'⟩
      case measure=>simp[intOf];omega
     |false=>
      have HN:Hid (R=false):=Lib.hid (by rw[HN1.out];exact all_miss Hy.out HF.out)
      go_wp2_with fail
      go_ret
      exact⟨ret_b HN.out.symm,hB⟩
    ·have hKI:¬(K:Int)<(x.l.length:Int):=by omega
     have HN:Hid (R=true):=Lib.hid (by
      rw[HN1.out]
      exact all_hit fun i y hy=>HE.out i y (by have:=(List.getElem?_eq_some_iff.1 hy).1;omega) hy)
     go_wp2_with fail
     go_ret
     exact⟨ret_b HN.out.symm,hB⟩
  ·by_cases h6:k=6
   ·subst h6
    have HN0:Hid (R=(CB&&x.l.all (rightV n))):=Lib.hid (by rw[HR.out,if_neg (by omega),if_pos rfl,HBB.out,Bool.true_and])
    have c8:=hv.cell X8.out
    have c9:=hv.cell X9.out
    have c10:=hv.cell X10.out
    have c11:=hv.cell X11.out
    have a90:∀f:Field,([f]:List Field)[0]? =some f:=fun _=>rfl
    have a91:∀f g:Field,([f,g]:List Field)[0]? =some f:=fun _ _=>rfl
    by_cases a1:(nb:Int)<1
    ·have HN:Hid (R=false):=Lib.hid (by
      have:CB=false:=Bool.eq_false_iff.2 fun h=>by have:=HCD.out.1 h;omega
      rw[HN0.out,this];rfl)
     go_wp2_with fail
     go_ret
     exact⟨ret_b HN.out.symm,hB⟩
    by_cases a2:(20:Int)<(nb:Int)
    ·have HN:Hid (R=false):=Lib.hid (by
      have:CB=false:=Bool.eq_false_iff.2 fun h=>by have:=HCD.out.1 h;omega
      rw[HN0.out,this];rfl)
     go_wp2_with fail
     go_ret
     exact⟨ret_b HN.out.symm,hB⟩
    by_cases a3:¬(np:Int)=(nb:Int)
    ·have HN:Hid (R=false):=Lib.hid (by
      have:CB=false:=Bool.eq_false_iff.2 fun h=>by have:=HCD.out.1 h;omega
      rw[HN0.out,this];rfl)
     have f6:((np:Int) != (nb:Int))=true:=by simpa using a3
     clear a3
     go_wp2_with fail
     go_ret
     exact⟨ret_b HN.out.symm,hB⟩
    have a3:=Classical.not_not.1 a3
    have f6:((np:Int) != (nb:Int))=false:=by simpa using a3
    by_cases a4:fn<0
    ·have HN:Hid (R=false):=Lib.hid (by
      have:CB=false:=Bool.eq_false_iff.2 fun h=>by have:=HCD.out.1 h;omega
      rw[HN0.out,this];rfl)
     go_wp2_with fail
     go_ret
     exact⟨ret_b HN.out.symm,hB⟩
    by_cases a5:(nb:Int)≤fn
    ·have HN:Hid (R=false):=Lib.hid (by
      have:CB=false:=Bool.eq_false_iff.2 fun h=>by have:=HCD.out.1 h;omega
      rw[HN0.out,this];rfl)
     go_wp2_with fail
     go_ret
     exact⟨ret_b HN.out.symm,hB⟩
    by_cases a6:(40:Int)<(x.l.length:Int)
    ·have HN:Hid (R=false):=Lib.hid (by
      have:CB=false:=Bool.eq_false_iff.2 fun h=>by have:=HCD.out.1 h;omega
      rw[HN0.out,this];rfl)
     go_wp2_with fail
     go_ret
     exact⟨ret_b HN.out.symm,hB⟩
    have HN1:Hid (R=x.l.all (rightV n)):=Lib.hid (by rw[HN0.out,HCD.out.2 (by omega),Bool.true_and])
    clear a3 HN0
    go_wp2_with fail
    go_loopw [5] (fun i wr=>∃K:Nat,K≤x.l.length∧i= .int .i64 (K:Int)∧Below w.heap.size w wr∧World.vb wr w.heap.size C∧Hid (∀i y,i<K→x.l[i]? =some y→rightV n y=true)) (fun i _=>x.l.length-(intOf i).toNat)
    case atStart=>exact⟨0,Nat.zero_le _,rfl,hB,hv,Lib.hid fun i y h=>by omega⟩
    case round=>
     clear c8 c9 c10 c11 hB hv
     obtain⟨K,hK,rfl,hB,hv,HE⟩:=hrel
     have c8:=hv.cell X8.out
     by_cases hlt:K<x.l.length
     ·have hKI:(K:Int)<(x.l.length:Int):=by omega
      obtain⟨y,hy⟩:∃y,x.l[K]? =some y:=⟨_,List.getElem?_eq_getElem hlt⟩
      obtain⟨g,off,cs,rfl,hg,hs,hx1,hx2⟩:=HEL.out K y hy
      have HCC:=Lib.hid (show ∀W,Below w.heap.size w W→∀j u,cs[j]? =some u→W.cell? ⟨g,off+K*12+j,none⟩=some u from fun W hW j u hj=>(hW.cell (p:=⟨g,_,none⟩) hg).trans (hx2 j u hj))
      have HOO:=Lib.hid hx1.one
      have HFY:=Lib.hid (show ∀W,Below w.heap.size w W→w.heap.size≤W.heap.size→Calls Tryz.prog 38 #[.agg cs] W (Gives (.bool (rightV n y)) W)from fun W hW hz=>HIH.out y _ W (hx1.below hW hz))
      have Hy:=Lib.hid hy
      obtain⟨fy,hfy⟩:∃b,rightV n y=b:=⟨_,rfl⟩
      rw[hfy]at HFY
      have HF:=Lib.hid hfy
      clear hy hx1 hx2 hs hfy
      go_wp2_with (refine wpList_load34at rfl rfl rfl HOO.out.1 (HCC.out _ hB) ?_)
      refine(HFY.out _ hB hB.size).mono ?_
      rintro e3 w3 ⟨rfl,hB3⟩
      have hv:=hv.below hB3 hv.lt
      have hB:=hB.trans (hB3.mono hB.size)
      clear hB3 c8
      have c8:=hv.cell X8.out
      cases fy with
      |true=>
       have HE':Hid (∀i y,i<K+1→x.l[i]? =some y→rightV n y=true):=Lib.hid fun i z hi hz=>by
        by_cases e:i=K
        ·subst e;rw[Hy.out]at hz;injection hz with hz;rw[←hz];exact HF.out
        ·exact HE.out i z (by omega) hz
       go_wp2_with fail
       go_roundw
       case rel=>exact⟨K+1,by omega,by go_num,hB,hv,HE'⟩
       case measure=>simp[intOf];omega
      |false=>
       have HN:Hid (R=false):=Lib.hid (by rw[HN1.out];exact all_miss Hy.out HF.out)
       go_wp2_with fail
       go_ret
       exact⟨ret_b HN.out.symm,hB⟩
     ·have hKI:¬(K:Int)<(x.l.length:Int):=by omega
      have HN:Hid (R=true):=Lib.hid (by
       rw[HN1.out]
       exact all_hit fun i y hy=>HE.out i y (by have:=(List.getElem?_eq_some_iff.1 hy).1;omega) hy)
      go_wp2_with fail
      go_ret
      exact⟨ret_b HN.out.symm,hB⟩
   ·have HN:Hid (R=false):=Lib.hid (by
     rw[HR.out,if_neg h5,if_neg h6,HPK.out,HBB.out,Bool.true_and,if_neg (by omega),if_neg (by omega),if_neg (by omega),if_neg (by omega)])
    have g5:(k==5)=false:=by simpa using h5
    have g6:(k != 6)=true:=by simpa using h6
    have c10:=hv.cell X10.out
    clear h5 h6
    go_wp2_with fail
    go_ret
    exact⟨ret_b HN.out.symm,hB⟩
theorem rright38_any :∀(n:Nat) (x:Vl) (v:Value) (w:World),Rp w w.heap.size n x v→Calls Tryz.prog 38 #[v] w (Gives (.bool (rightV n x)) w)
 |0,_,_,_,h=>h.elim
 |n+1,x,v,w,hx=>rright_step n (rright38_any n) x v w hx
end Go.Proofs.YtkhohjdakcchdaaGreatDoor
