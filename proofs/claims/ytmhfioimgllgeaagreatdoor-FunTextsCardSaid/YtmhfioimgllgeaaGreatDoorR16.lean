/- tabularef02.Sign: how many bytes the first sign of a text has. -/
import Derived.Test.YtmhfioimgllgeaaGreatDoorR01
import Derived.Test.YtmhfioimgllgeaaGreatDoorR10
import Derived.Test.YtmhfioimgllgeaaGreatDoorR02
import Derived.Lib.Hide
namespace Go.Proofs.YtmhfioimgllgeaaGreatDoor
open Go.RowKit
theorem at_getD (s:ByteArray) {i:Nat} (h:i<s.size):(s.data.toList.getD i 0)=s[i]'h:=by
 rw[List.getD_eq_getElem?_getD,List.getElem?_eq_getElem (by rw[←Lib.size_eq];exact h)]
 rfl
def byN (s:ByteArray) (i:Nat):Nat:=(s.data.toList.getD i 0).toNat
theorem byN_at (s:ByteArray) {i:Nat} (h:i<s.size):byN s i=(s[i]'h).toNat:=by unfold byN;rw[at_getD s h]
theorem sgnL_by (s:ByteArray):sgnL s.data.toList=sgnN s.size (byN s 0) (byN s 1) (byN s 2) (byN s 3):=by
 unfold sgnL byN;rw[←Lib.size_eq]
/-- What is asked behind the first byte: k bytes in all, the second one from lo to hi, each further one a tail. -/
theorem sgnN_cls {n b0 b1 b2 b3 k lo hi:Nat} (hn:n≠0) (hc:(194≤b0∧b0≤223∧k=2∧lo=128∧hi=191)∨(224≤b0∧b0≤239∧k=3∧lo=(if b0=224 then 160 else 128)∧hi=(if b0=237 then 159 else 191))∨
 (240≤b0∧b0≤244∧k=4∧lo=(if b0=240 then 144 else 128)∧hi=(if b0=244 then 143 else 191))):
 sgnN n b0 b1 b2 b3=if k≤n∧lo≤b1∧b1≤hi∧(3≤k→128≤b2∧b2≤191)∧(4≤k→128≤b3∧b3≤191)then k else 0:=by
 unfold sgnN
 rw[if_neg hn]
 rcases hc with ⟨h1,h2,rfl,rfl,rfl⟩|⟨h1,h2,rfl,e1,e2⟩|⟨h1,h2,rfl,e1,e2⟩
 ·rw[if_neg (by omega),if_pos (by omega)]
  congr 1;apply propext;constructor
  ·rintro⟨a,b,c⟩;exact⟨a,b,c,by omega,by omega⟩
  ·rintro⟨a,b,c,_⟩;exact⟨a,b,c⟩
 ·rw[if_neg (by omega),if_neg (by omega),if_pos (by omega),←e1,←e2]
  congr 1;apply propext;constructor
  ·rintro⟨a,b,c,d,e⟩;exact⟨a,b,c,fun _=>⟨d,e⟩,by omega⟩
  ·rintro⟨a,b,c,d,_⟩;exact⟨a,b,c,d (by omega)⟩
 ·rw[if_neg (by omega),if_neg (by omega),if_neg (by omega),if_pos (by omega),←e1,←e2]
  congr 1;apply propext;constructor
  ·rintro⟨a,b,c,d,e⟩;exact⟨a,b,c,fun _=>d,fun _=>e⟩
  ·rintro⟨a,b,c,d,e⟩;exact⟨a,b,c,d (by omega),e (by omega)⟩
theorem sgnN_low {n b0 b1 b2 b3:Nat} (hn:n≠0) (h:b0<128):sgnN n b0 b1 b2 b3=1:=by unfold sgnN;rw[if_neg hn,if_pos h]
theorem sgnN_bad {n b0 b1 b2 b3:Nat} (h:(128≤b0∧b0<194)∨244<b0):sgnN n b0 b1 b2 b3=0:=by
 unfold sgnN
 split
 ·rfl
 rw[if_neg (by omega),if_neg (by omega),if_neg (by omega),if_neg (by omega)]
set_option maxRecDepth 100000 in
set_option maxHeartbeats 1000000 in
theorem sign_low (s:ByteArray) (w:World) (hs:s.size≤9223372036854775807) (hl:s.size=0∨byN s 0<194∨244<byN s 0):
 Calls Tryz.prog 57 #[.string s] w fun e w'=>e= .returned (.int .i64 (sgnL s.data.toList))∧w'=w:=by
 rw[sgnL_by]
 by_cases h0:s.size=0
 ·have HS:Hid (sgnN s.size (byN s 0) (byN s 1) (byN s 2) (byN s 3)=0):=by show _=_;unfold sgnN;rw[if_pos h0]
  go_enter Tryz.func57,Tryz.ntmps57
  go_wp2
  go_ret
  exact⟨ret_int (by rw[HS.out];rfl),rfl⟩
 ·have hp:0<s.size:=Nat.pos_of_ne_zero h0
  have hb:=byN_at s hp
  have hlt:(s[0]'hp).toNat<256:=UInt8.toNat_lt _
  have h0I:((s.size:Int)==0)=false:=by rw[beq_eq_false_iff_ne];omega
  by_cases ha:byN s 0<128
  ·have HS:Hid (sgnN s.size (byN s 0) (byN s 1) (byN s 2) (byN s 3)=1):=sgnN_low h0 ha
   have ha':((s[0]'hp).toNat:Int)<128:=by omega
   clear hb ha hl
   go_enter Tryz.func57,Tryz.ntmps57
   go_wp2
   go_ret
   exact⟨ret_int (by rw[HS.out];rfl),rfl⟩
  ·have HS:Hid (sgnN s.size (byN s 0) (byN s 1) (byN s 2) (byN s 3)=0):=sgnN_bad (by omega)
   have ha':¬((s[0]'hp).toNat:Int)<128:=by omega
   have hc:(128≤(s[0]'hp).toNat∧(s[0]'hp).toNat<194)∨244<(s[0]'hp).toNat:=by omega
   clear hb ha hl
   rcases hc with ⟨hc1,hc2⟩|hc
   ·have hc3:((s[0]'hp).toNat:Int)<194:=by omega
    go_enter Tryz.func57,Tryz.ntmps57
    go_wp2
    go_ret
    exact⟨ret_int (by rw[HS.out];rfl),rfl⟩
   ·have hc3:(244:Int)<((s[0]'hp).toNat:Int):=by omega
    go_enter Tryz.func57,Tryz.ntmps57
    go_wp2
    go_ret
    exact⟨ret_int (by rw[HS.out];rfl),rfl⟩
set_option maxRecDepth 100000 in
set_option maxHeartbeats 2000000 in
theorem sign_194 (s:ByteArray) (w:World) (hs:s.size≤9223372036854775807) (hp:0<s.size) (h1:194≤byN s 0) (h2:byN s 0≤223):
 Calls Tryz.prog 57 #[.string s] w fun e w'=>e= .returned (.int .i64 (sgnL s.data.toList))∧w'=w:=by
 rw[sgnL_by]
 have HN:Hid (sgnN s.size (byN s 0) (byN s 1) (byN s 2) (byN s 3)=if 2≤s.size∧128≤byN s 1∧byN s 1≤191∧(3≤2→128≤byN s 2∧byN s 2≤191)∧(4≤2→128≤byN s 3∧byN s 3≤191)then 2 else 0):=
  sgnN_cls (by omega) (.inl ⟨h1,h2,rfl,rfl,rfl⟩)
 have hb:=byN_at s hp
 have h0I:((s.size:Int)==0)=false:=by rw[beq_eq_false_iff_ne];omega
 have hlt:(s[0]'hp).toNat<256:=UInt8.toNat_lt _
 rw[hb]at h1 h2
 clear hb
 have g1:(194:Int)≤((s[0]'hp).toNat:Int):=by omega
 have g2:((s[0]'hp).toNat:Int)≤223:=by omega
 have e224:(((s[0]'hp).toNat:Int)==224)=false:=by rw[beq_eq_false_iff_ne];omega
 have e237:(((s[0]'hp).toNat:Int)==237)=false:=by rw[beq_eq_false_iff_ne];omega
 have e240:(((s[0]'hp).toNat:Int)==240)=false:=by rw[beq_eq_false_iff_ne];omega
 have e244:(((s[0]'hp).toNat:Int)==244)=false:=by rw[beq_eq_false_iff_ne];omega
 generalize sgnN s.size (byN s 0) (byN s 1) (byN s 2) (byN s 3)=R at HN⊢
 by_cases hk:s.size<2
 ·have HR:Hid (R=0):=by show _=_;rw[HN.out,if_neg (by omega)]
  have hkI:(s.size:Int)<2:=by omega
  go_enter Tryz.func57,Tryz.ntmps57
  go_wp2
  go_ret
  exact⟨ret_int (by rw[HR.out];rfl),rfl⟩
 have hkI:(2:Int)≤(s.size:Int):=by omega
 have hp1:1<s.size:=by omega
 have hlt1:(s[1]'hp1).toNat<256:=UInt8.toNat_lt _
 have hb1:=byN_at s hp1
 have hl1:(1:Int)<(s.size:Int):=by omega
 by_cases hlo:(s[1]'hp1).toNat<128
 ·have HR:Hid (R=0):=by show _=_;rw[HN.out,if_neg (by omega)]
  have hloI:((s[1]'hp1).toNat:Int)<128:=by omega
  clear hb1
  go_enter Tryz.func57,Tryz.ntmps57
  go_wp2
  go_ret
  exact⟨ret_int (by rw[HR.out];rfl),rfl⟩
 have hloI:¬((s[1]'hp1).toNat:Int)<128:=by omega
 by_cases hhi:191<(s[1]'hp1).toNat
 ·have HR:Hid (R=0):=by show _=_;rw[HN.out,if_neg (by omega)]
  have hhiI:(191:Int)<((s[1]'hp1).toNat:Int):=by omega
  clear hb1
  go_enter Tryz.func57,Tryz.ntmps57
  go_wp2
  go_ret
  exact⟨ret_int (by rw[HR.out];rfl),rfl⟩
 have hhiI:¬(191:Int)<((s[1]'hp1).toNat:Int):=by omega
 have HX:Hid (R=if(3≤2→128≤byN s 2∧byN s 2≤191)∧(4≤2→128≤byN s 3∧byN s 3≤191)then 2 else 0):=by
  show _=_
  rw[HN.out]
  congr 1;apply propext;constructor
  ·rintro⟨_,_,_,h⟩;exact h
  ·intro h;exact⟨by omega,by omega,by omega,h⟩
 clear HN hb1
 go_enter Tryz.func57,Tryz.ntmps57
 go_wp2
 go_loop [7] (fun i=>∃K:Nat,2≤K∧K≤2∧i= .int .i64 (K:Int)∧Hid (∀j,2≤j→j<K→128≤byN s j∧byN s j≤191)) (fun i=>2-(intOf i).toNat)
 case atStart=>exact⟨2,by omega,by omega,rfl,Lib.hid fun j h1 h2=>by omega⟩
 case round=>
  obtain⟨K,k2,kk,rfl,HK⟩:=hrel
  by_cases hlt2:K<2
  ·have hKs:K<s.size:=by omega
   have hKI:(K:Int)<2:=by omega
   have hKJ:(K:Int)<(s.size:Int):=by omega
   have hltK:(s[K]'hKs).toNat<256:=UInt8.toNat_lt _
   have hbK:=byN_at s hKs
   by_cases c1:(s[K]'hKs).toNat<128
   ·have HR:Hid (R=0):=by
     show _=_;rw[HX.out,if_neg]
     rintro⟨a1,a2⟩
     rcases(by omega:K=2∨K=3)with e|e
     ·have:=a1 (by omega);subst e;omega
     ·have:=a2 (by omega);subst e;omega
    have c1I:((s[K]'hKs).toNat:Int)<128:=by omega
    clear hbK
    go_wp2
    go_ret
    exact⟨ret_int (by rw[HR.out];rfl),rfl⟩
   have c1I:¬((s[K]'hKs).toNat:Int)<128:=by omega
   by_cases c2:191<(s[K]'hKs).toNat
   ·have HR:Hid (R=0):=by
     show _=_;rw[HX.out,if_neg]
     rintro⟨a1,a2⟩
     rcases(by omega:K=2∨K=3)with e|e
     ·have:=a1 (by omega);subst e;omega
     ·have:=a2 (by omega);subst e;omega
    have c2I:(191:Int)<((s[K]'hKs).toNat:Int):=by omega
    clear hbK
    go_wp2
    go_ret
    exact⟨ret_int (by rw[HR.out];rfl),rfl⟩
   have c2I:¬(191:Int)<((s[K]'hKs).toNat:Int):=by omega
   have HK':Hid (∀j,2≤j→j<K+1→128≤byN s j∧byN s j≤191):=Lib.hid fun j j1 j2=>by
    by_cases e:j=K
    ·subst e;omega
    ·exact HK.out j j1 (by omega)
   clear hbK HK
   go_wp2
   go_round
   case rel=>exact⟨K+1,by omega,by omega,by go_num,HK'⟩
   case measure=>simp[intOf];omega
  ·have HR:Hid (R=2):=by
    show _=_;rw[HX.out,if_pos]
    exact⟨fun h=>HK.out 2 (by omega) (by omega),fun h=>HK.out 3 (by omega) (by omega)⟩
   have hKI:¬(K:Int)<2:=by omega
   clear HK HX
   go_wp2
   go_ret
   exact⟨ret_int (by rw[HR.out];rfl),rfl⟩
set_option maxRecDepth 100000 in
set_option maxHeartbeats 2000000 in
theorem sign_224 (s:ByteArray) (w:World) (hs:s.size≤9223372036854775807) (hp:0<s.size) (h1:224≤byN s 0) (h2:byN s 0≤224):
 Calls Tryz.prog 57 #[.string s] w fun e w'=>e= .returned (.int .i64 (sgnL s.data.toList))∧w'=w:=by
 rw[sgnL_by]
 have HN:Hid (sgnN s.size (byN s 0) (byN s 1) (byN s 2) (byN s 3)=if 3≤s.size∧160≤byN s 1∧byN s 1≤191∧(3≤3→128≤byN s 2∧byN s 2≤191)∧(4≤3→128≤byN s 3∧byN s 3≤191)then 3 else 0):=
  sgnN_cls (by omega) (.inr (.inl ⟨by omega,by omega,rfl,by split<;>omega,by split<;>omega⟩))
 have hb:=byN_at s hp
 have h0I:((s.size:Int)==0)=false:=by rw[beq_eq_false_iff_ne];omega
 have hlt:(s[0]'hp).toNat<256:=UInt8.toNat_lt _
 rw[hb]at h1 h2
 clear hb
 have g1:(224:Int)≤((s[0]'hp).toNat:Int):=by omega
 have g2:((s[0]'hp).toNat:Int)≤224:=by omega
 have e224:(((s[0]'hp).toNat:Int)==224)=true:=by rw[beq_iff_eq];omega
 have e237:(((s[0]'hp).toNat:Int)==237)=false:=by rw[beq_eq_false_iff_ne];omega
 have e240:(((s[0]'hp).toNat:Int)==240)=false:=by rw[beq_eq_false_iff_ne];omega
 have e244:(((s[0]'hp).toNat:Int)==244)=false:=by rw[beq_eq_false_iff_ne];omega
 generalize sgnN s.size (byN s 0) (byN s 1) (byN s 2) (byN s 3)=R at HN⊢
 by_cases hk:s.size<3
 ·have HR:Hid (R=0):=by show _=_;rw[HN.out,if_neg (by omega)]
  have hkI:(s.size:Int)<3:=by omega
  go_enter Tryz.func57,Tryz.ntmps57
  go_wp2
  go_ret
  exact⟨ret_int (by rw[HR.out];rfl),rfl⟩
 have hkI:(3:Int)≤(s.size:Int):=by omega
 have hp1:1<s.size:=by omega
 have hlt1:(s[1]'hp1).toNat<256:=UInt8.toNat_lt _
 have hb1:=byN_at s hp1
 have hl1:(1:Int)<(s.size:Int):=by omega
 by_cases hlo:(s[1]'hp1).toNat<160
 ·have HR:Hid (R=0):=by show _=_;rw[HN.out,if_neg (by omega)]
  have hloI:((s[1]'hp1).toNat:Int)<160:=by omega
  clear hb1
  go_enter Tryz.func57,Tryz.ntmps57
  go_wp2
  go_ret
  exact⟨ret_int (by rw[HR.out];rfl),rfl⟩
 have hloI:¬((s[1]'hp1).toNat:Int)<160:=by omega
 by_cases hhi:191<(s[1]'hp1).toNat
 ·have HR:Hid (R=0):=by show _=_;rw[HN.out,if_neg (by omega)]
  have hhiI:(191:Int)<((s[1]'hp1).toNat:Int):=by omega
  clear hb1
  go_enter Tryz.func57,Tryz.ntmps57
  go_wp2
  go_ret
  exact⟨ret_int (by rw[HR.out];rfl),rfl⟩
 have hhiI:¬(191:Int)<((s[1]'hp1).toNat:Int):=by omega
 have HX:Hid (R=if(3≤3→128≤byN s 2∧byN s 2≤191)∧(4≤3→128≤byN s 3∧byN s 3≤191)then 3 else 0):=by
  show _=_
  rw[HN.out]
  congr 1;apply propext;constructor
  ·rintro⟨_,_,_,h⟩;exact h
  ·intro h;exact⟨by omega,by omega,by omega,h⟩
 clear HN hb1
 go_enter Tryz.func57,Tryz.ntmps57
 go_wp2
 go_loop [7] (fun i=>∃K:Nat,2≤K∧K≤3∧i= .int .i64 (K:Int)∧Hid (∀j,2≤j→j<K→128≤byN s j∧byN s j≤191)) (fun i=>3-(intOf i).toNat)
 case atStart=>exact⟨2,by omega,by omega,rfl,Lib.hid fun j h1 h2=>by omega⟩
 case round=>
  obtain⟨K,k2,kk,rfl,HK⟩:=hrel
  by_cases hlt2:K<3
  ·have hKs:K<s.size:=by omega
   have hKI:(K:Int)<3:=by omega
   have hKJ:(K:Int)<(s.size:Int):=by omega
   have hltK:(s[K]'hKs).toNat<256:=UInt8.toNat_lt _
   have hbK:=byN_at s hKs
   by_cases c1:(s[K]'hKs).toNat<128
   ·have HR:Hid (R=0):=by
     show _=_;rw[HX.out,if_neg]
     rintro⟨a1,a2⟩
     rcases(by omega:K=2∨K=3)with e|e
     ·have:=a1 (by omega);subst e;omega
     ·have:=a2 (by omega);subst e;omega
    have c1I:((s[K]'hKs).toNat:Int)<128:=by omega
    clear hbK
    go_wp2
    go_ret
    exact⟨ret_int (by rw[HR.out];rfl),rfl⟩
   have c1I:¬((s[K]'hKs).toNat:Int)<128:=by omega
   by_cases c2:191<(s[K]'hKs).toNat
   ·have HR:Hid (R=0):=by
     show _=_;rw[HX.out,if_neg]
     rintro⟨a1,a2⟩
     rcases(by omega:K=2∨K=3)with e|e
     ·have:=a1 (by omega);subst e;omega
     ·have:=a2 (by omega);subst e;omega
    have c2I:(191:Int)<((s[K]'hKs).toNat:Int):=by omega
    clear hbK
    go_wp2
    go_ret
    exact⟨ret_int (by rw[HR.out];rfl),rfl⟩
   have c2I:¬(191:Int)<((s[K]'hKs).toNat:Int):=by omega
   have HK':Hid (∀j,2≤j→j<K+1→128≤byN s j∧byN s j≤191):=Lib.hid fun j j1 j2=>by
    by_cases e:j=K
    ·subst e;omega
    ·exact HK.out j j1 (by omega)
   clear hbK HK
   go_wp2
   go_round
   case rel=>exact⟨K+1,by omega,by omega,by go_num,HK'⟩
   case measure=>simp[intOf];omega
  ·have HR:Hid (R=3):=by
    show _=_;rw[HX.out,if_pos]
    exact⟨fun h=>HK.out 2 (by omega) (by omega),fun h=>HK.out 3 (by omega) (by omega)⟩
   have hKI:¬(K:Int)<3:=by omega
   clear HK HX
   go_wp2
   go_ret
   exact⟨ret_int (by rw[HR.out];rfl),rfl⟩
set_option maxRecDepth 100000 in
set_option maxHeartbeats 2000000 in
theorem sign_225 (s:ByteArray) (w:World) (hs:s.size≤9223372036854775807) (hp:0<s.size) (h1:225≤byN s 0) (h2:byN s 0≤239) (hne:byN s 0≠237):
 Calls Tryz.prog 57 #[.string s] w fun e w'=>e= .returned (.int .i64 (sgnL s.data.toList))∧w'=w:=by
 rw[sgnL_by]
 have HN:Hid (sgnN s.size (byN s 0) (byN s 1) (byN s 2) (byN s 3)=if 3≤s.size∧128≤byN s 1∧byN s 1≤191∧(3≤3→128≤byN s 2∧byN s 2≤191)∧(4≤3→128≤byN s 3∧byN s 3≤191)then 3 else 0):=
  sgnN_cls (by omega) (.inr (.inl ⟨by omega,by omega,rfl,by split<;>omega,by split<;>omega⟩))
 have hb:=byN_at s hp
 have h0I:((s.size:Int)==0)=false:=by rw[beq_eq_false_iff_ne];omega
 have hlt:(s[0]'hp).toNat<256:=UInt8.toNat_lt _
 rw[hb]at h1 h2 hne
 clear hb
 have g1:(225:Int)≤((s[0]'hp).toNat:Int):=by omega
 have g2:((s[0]'hp).toNat:Int)≤239:=by omega
 have e224:(((s[0]'hp).toNat:Int)==224)=false:=by rw[beq_eq_false_iff_ne];omega
 have e237:(((s[0]'hp).toNat:Int)==237)=false:=by rw[beq_eq_false_iff_ne];omega
 have e240:(((s[0]'hp).toNat:Int)==240)=false:=by rw[beq_eq_false_iff_ne];omega
 have e244:(((s[0]'hp).toNat:Int)==244)=false:=by rw[beq_eq_false_iff_ne];omega
 generalize sgnN s.size (byN s 0) (byN s 1) (byN s 2) (byN s 3)=R at HN⊢
 by_cases hk:s.size<3
 ·have HR:Hid (R=0):=by show _=_;rw[HN.out,if_neg (by omega)]
  have hkI:(s.size:Int)<3:=by omega
  go_enter Tryz.func57,Tryz.ntmps57
  go_wp2
  go_ret
  exact⟨ret_int (by rw[HR.out];rfl),rfl⟩
 have hkI:(3:Int)≤(s.size:Int):=by omega
 have hp1:1<s.size:=by omega
 have hlt1:(s[1]'hp1).toNat<256:=UInt8.toNat_lt _
 have hb1:=byN_at s hp1
 have hl1:(1:Int)<(s.size:Int):=by omega
 by_cases hlo:(s[1]'hp1).toNat<128
 ·have HR:Hid (R=0):=by show _=_;rw[HN.out,if_neg (by omega)]
  have hloI:((s[1]'hp1).toNat:Int)<128:=by omega
  clear hb1
  go_enter Tryz.func57,Tryz.ntmps57
  go_wp2
  go_ret
  exact⟨ret_int (by rw[HR.out];rfl),rfl⟩
 have hloI:¬((s[1]'hp1).toNat:Int)<128:=by omega
 by_cases hhi:191<(s[1]'hp1).toNat
 ·have HR:Hid (R=0):=by show _=_;rw[HN.out,if_neg (by omega)]
  have hhiI:(191:Int)<((s[1]'hp1).toNat:Int):=by omega
  clear hb1
  go_enter Tryz.func57,Tryz.ntmps57
  go_wp2
  go_ret
  exact⟨ret_int (by rw[HR.out];rfl),rfl⟩
 have hhiI:¬(191:Int)<((s[1]'hp1).toNat:Int):=by omega
 have HX:Hid (R=if(3≤3→128≤byN s 2∧byN s 2≤191)∧(4≤3→128≤byN s 3∧byN s 3≤191)then 3 else 0):=by
  show _=_
  rw[HN.out]
  congr 1;apply propext;constructor
  ·rintro⟨_,_,_,h⟩;exact h
  ·intro h;exact⟨by omega,by omega,by omega,h⟩
 clear HN hb1
 go_enter Tryz.func57,Tryz.ntmps57
 go_wp2
 go_loop [7] (fun i=>∃K:Nat,2≤K∧K≤3∧i= .int .i64 (K:Int)∧Hid (∀j,2≤j→j<K→128≤byN s j∧byN s j≤191)) (fun i=>3-(intOf i).toNat)
 case atStart=>exact⟨2,by omega,by omega,rfl,Lib.hid fun j h1 h2=>by omega⟩
 case round=>
  obtain⟨K,k2,kk,rfl,HK⟩:=hrel
  by_cases hlt2:K<3
  ·have hKs:K<s.size:=by omega
   have hKI:(K:Int)<3:=by omega
   have hKJ:(K:Int)<(s.size:Int):=by omega
   have hltK:(s[K]'hKs).toNat<256:=UInt8.toNat_lt _
   have hbK:=byN_at s hKs
   by_cases c1:(s[K]'hKs).toNat<128
   ·have HR:Hid (R=0):=by
     show _=_;rw[HX.out,if_neg]
     rintro⟨a1,a2⟩
     rcases(by omega:K=2∨K=3)with e|e
     ·have:=a1 (by omega);subst e;omega
     ·have:=a2 (by omega);subst e;omega
    have c1I:((s[K]'hKs).toNat:Int)<128:=by omega
    clear hbK
    go_wp2
    go_ret
    exact⟨ret_int (by rw[HR.out];rfl),rfl⟩
   have c1I:¬((s[K]'hKs).toNat:Int)<128:=by omega
   by_cases c2:191<(s[K]'hKs).toNat
   ·have HR:Hid (R=0):=by
     show _=_;rw[HX.out,if_neg]
     rintro⟨a1,a2⟩
     rcases(by omega:K=2∨K=3)with e|e
     ·have:=a1 (by omega);subst e;omega
     ·have:=a2 (by omega);subst e;omega
    have c2I:(191:Int)<((s[K]'hKs).toNat:Int):=by omega
    clear hbK
    go_wp2
    go_ret
    exact⟨ret_int (by rw[HR.out];rfl),rfl⟩
   have c2I:¬(191:Int)<((s[K]'hKs).toNat:Int):=by omega
   have HK':Hid (∀j,2≤j→j<K+1→128≤byN s j∧byN s j≤191):=Lib.hid fun j j1 j2=>by
    by_cases e:j=K
    ·subst e;omega
    ·exact HK.out j j1 (by omega)
   clear hbK HK
   go_wp2
   go_round
   case rel=>exact⟨K+1,by omega,by omega,by go_num,HK'⟩
   case measure=>simp[intOf];omega
  ·have HR:Hid (R=3):=by
    show _=_;rw[HX.out,if_pos]
    exact⟨fun h=>HK.out 2 (by omega) (by omega),fun h=>HK.out 3 (by omega) (by omega)⟩
   have hKI:¬(K:Int)<3:=by omega
   clear HK HX
   go_wp2
   go_ret
   exact⟨ret_int (by rw[HR.out];rfl),rfl⟩
set_option maxRecDepth 100000 in
set_option maxHeartbeats 2000000 in
theorem sign_237 (s:ByteArray) (w:World) (hs:s.size≤9223372036854775807) (hp:0<s.size) (h1:237≤byN s 0) (h2:byN s 0≤237):
 Calls Tryz.prog 57 #[.string s] w fun e w'=>e= .returned (.int .i64 (sgnL s.data.toList))∧w'=w:=by
 rw[sgnL_by]
 have HN:Hid (sgnN s.size (byN s 0) (byN s 1) (byN s 2) (byN s 3)=if 3≤s.size∧128≤byN s 1∧byN s 1≤159∧(3≤3→128≤byN s 2∧byN s 2≤191)∧(4≤3→128≤byN s 3∧byN s 3≤191)then 3 else 0):=
  sgnN_cls (by omega) (.inr (.inl ⟨by omega,by omega,rfl,by split<;>omega,by split<;>omega⟩))
 have hb:=byN_at s hp
 have h0I:((s.size:Int)==0)=false:=by rw[beq_eq_false_iff_ne];omega
 have hlt:(s[0]'hp).toNat<256:=UInt8.toNat_lt _
 rw[hb]at h1 h2
 clear hb
 have g1:(237:Int)≤((s[0]'hp).toNat:Int):=by omega
 have g2:((s[0]'hp).toNat:Int)≤237:=by omega
 have e224:(((s[0]'hp).toNat:Int)==224)=false:=by rw[beq_eq_false_iff_ne];omega
 have e237:(((s[0]'hp).toNat:Int)==237)=true:=by rw[beq_iff_eq];omega
 have e240:(((s[0]'hp).toNat:Int)==240)=false:=by rw[beq_eq_false_iff_ne];omega
 have e244:(((s[0]'hp).toNat:Int)==244)=false:=by rw[beq_eq_false_iff_ne];omega
 generalize sgnN s.size (byN s 0) (byN s 1) (byN s 2) (byN s 3)=R at HN⊢
 by_cases hk:s.size<3
 ·have HR:Hid (R=0):=by show _=_;rw[HN.out,if_neg (by omega)]
  have hkI:(s.size:Int)<3:=by omega
  go_enter Tryz.func57,Tryz.ntmps57
  go_wp2
  go_ret
  exact⟨ret_int (by rw[HR.out];rfl),rfl⟩
 have hkI:(3:Int)≤(s.size:Int):=by omega
 have hp1:1<s.size:=by omega
 have hlt1:(s[1]'hp1).toNat<256:=UInt8.toNat_lt _
 have hb1:=byN_at s hp1
 have hl1:(1:Int)<(s.size:Int):=by omega
 by_cases hlo:(s[1]'hp1).toNat<128
 ·have HR:Hid (R=0):=by show _=_;rw[HN.out,if_neg (by omega)]
  have hloI:((s[1]'hp1).toNat:Int)<128:=by omega
  clear hb1
  go_enter Tryz.func57,Tryz.ntmps57
  go_wp2
  go_ret
  exact⟨ret_int (by rw[HR.out];rfl),rfl⟩
 have hloI:¬((s[1]'hp1).toNat:Int)<128:=by omega
 by_cases hhi:159<(s[1]'hp1).toNat
 ·have HR:Hid (R=0):=by show _=_;rw[HN.out,if_neg (by omega)]
  have hhiI:(159:Int)<((s[1]'hp1).toNat:Int):=by omega
  clear hb1
  go_enter Tryz.func57,Tryz.ntmps57
  go_wp2
  go_ret
  exact⟨ret_int (by rw[HR.out];rfl),rfl⟩
 have hhiI:¬(159:Int)<((s[1]'hp1).toNat:Int):=by omega
 have HX:Hid (R=if(3≤3→128≤byN s 2∧byN s 2≤191)∧(4≤3→128≤byN s 3∧byN s 3≤191)then 3 else 0):=by
  show _=_
  rw[HN.out]
  congr 1;apply propext;constructor
  ·rintro⟨_,_,_,h⟩;exact h
  ·intro h;exact⟨by omega,by omega,by omega,h⟩
 clear HN hb1
 go_enter Tryz.func57,Tryz.ntmps57
 go_wp2
 go_loop [7] (fun i=>∃K:Nat,2≤K∧K≤3∧i= .int .i64 (K:Int)∧Hid (∀j,2≤j→j<K→128≤byN s j∧byN s j≤191)) (fun i=>3-(intOf i).toNat)
 case atStart=>exact⟨2,by omega,by omega,rfl,Lib.hid fun j h1 h2=>by omega⟩
 case round=>
  obtain⟨K,k2,kk,rfl,HK⟩:=hrel
  by_cases hlt2:K<3
  ·have hKs:K<s.size:=by omega
   have hKI:(K:Int)<3:=by omega
   have hKJ:(K:Int)<(s.size:Int):=by omega
   have hltK:(s[K]'hKs).toNat<256:=UInt8.toNat_lt _
   have hbK:=byN_at s hKs
   by_cases c1:(s[K]'hKs).toNat<128
   ·have HR:Hid (R=0):=by
     show _=_;rw[HX.out,if_neg]
     rintro⟨a1,a2⟩
     rcases(by omega:K=2∨K=3)with e|e
     ·have:=a1 (by omega);subst e;omega
     ·have:=a2 (by omega);subst e;omega
    have c1I:((s[K]'hKs).toNat:Int)<128:=by omega
    clear hbK
    go_wp2
    go_ret
    exact⟨ret_int (by rw[HR.out];rfl),rfl⟩
   have c1I:¬((s[K]'hKs).toNat:Int)<128:=by omega
   by_cases c2:191<(s[K]'hKs).toNat
   ·have HR:Hid (R=0):=by
     show _=_;rw[HX.out,if_neg]
     rintro⟨a1,a2⟩
     rcases(by omega:K=2∨K=3)with e|e
     ·have:=a1 (by omega);subst e;omega
     ·have:=a2 (by omega);subst e;omega
    have c2I:(191:Int)<((s[K]'hKs).toNat:Int):=by omega
    clear hbK
    go_wp2
    go_ret
    exact⟨ret_int (by rw[HR.out];rfl),rfl⟩
   have c2I:¬(191:Int)<((s[K]'hKs).toNat:Int):=by omega
   have HK':Hid (∀j,2≤j→j<K+1→128≤byN s j∧byN s j≤191):=Lib.hid fun j j1 j2=>by
    by_cases e:j=K
    ·subst e;omega
    ·exact HK.out j j1 (by omega)
   clear hbK HK
   go_wp2
   go_round
   case rel=>exact⟨K+1,by omega,by omega,by go_num,HK'⟩
   case measure=>simp[intOf];omega
  ·have HR:Hid (R=3):=by
    show _=_;rw[HX.out,if_pos]
    exact⟨fun h=>HK.out 2 (by omega) (by omega),fun h=>HK.out 3 (by omega) (by omega)⟩
   have hKI:¬(K:Int)<3:=by omega
   clear HK HX
   go_wp2
   go_ret
   exact⟨ret_int (by rw[HR.out];rfl),rfl⟩
set_option maxRecDepth 100000 in
set_option maxHeartbeats 2000000 in
theorem sign_240 (s:ByteArray) (w:World) (hs:s.size≤9223372036854775807) (hp:0<s.size) (h1:240≤byN s 0) (h2:byN s 0≤240):
 Calls Tryz.prog 57 #[.string s] w fun e w'=>e= .returned (.int .i64 (sgnL s.data.toList))∧w'=w:=by
 rw[sgnL_by]
 have HN:Hid (sgnN s.size (byN s 0) (byN s 1) (byN s 2) (byN s 3)=if 4≤s.size∧144≤byN s 1∧byN s 1≤191∧(3≤4→128≤byN s 2∧byN s 2≤191)∧(4≤4→128≤byN s 3∧byN s 3≤191)then 4 else 0):=
  sgnN_cls (by omega) (.inr (.inr ⟨by omega,by omega,rfl,by split<;>omega,by split<;>omega⟩))
 have hb:=byN_at s hp
 have h0I:((s.size:Int)==0)=false:=by rw[beq_eq_false_iff_ne];omega
 have hlt:(s[0]'hp).toNat<256:=UInt8.toNat_lt _
 rw[hb]at h1 h2
 clear hb
 have g1:(240:Int)≤((s[0]'hp).toNat:Int):=by omega
 have g2:((s[0]'hp).toNat:Int)≤240:=by omega
 have e224:(((s[0]'hp).toNat:Int)==224)=false:=by rw[beq_eq_false_iff_ne];omega
 have e237:(((s[0]'hp).toNat:Int)==237)=false:=by rw[beq_eq_false_iff_ne];omega
 have e240:(((s[0]'hp).toNat:Int)==240)=true:=by rw[beq_iff_eq];omega
 have e244:(((s[0]'hp).toNat:Int)==244)=false:=by rw[beq_eq_false_iff_ne];omega
 generalize sgnN s.size (byN s 0) (byN s 1) (byN s 2) (byN s 3)=R at HN⊢
 by_cases hk:s.size<4
 ·have HR:Hid (R=0):=by show _=_;rw[HN.out,if_neg (by omega)]
  have hkI:(s.size:Int)<4:=by omega
  go_enter Tryz.func57,Tryz.ntmps57
  go_wp2
  go_ret
  exact⟨ret_int (by rw[HR.out];rfl),rfl⟩
 have hkI:(4:Int)≤(s.size:Int):=by omega
 have hp1:1<s.size:=by omega
 have hlt1:(s[1]'hp1).toNat<256:=UInt8.toNat_lt _
 have hb1:=byN_at s hp1
 have hl1:(1:Int)<(s.size:Int):=by omega
 by_cases hlo:(s[1]'hp1).toNat<144
 ·have HR:Hid (R=0):=by show _=_;rw[HN.out,if_neg (by omega)]
  have hloI:((s[1]'hp1).toNat:Int)<144:=by omega
  clear hb1
  go_enter Tryz.func57,Tryz.ntmps57
  go_wp2
  go_ret
  exact⟨ret_int (by rw[HR.out];rfl),rfl⟩
 have hloI:¬((s[1]'hp1).toNat:Int)<144:=by omega
 by_cases hhi:191<(s[1]'hp1).toNat
 ·have HR:Hid (R=0):=by show _=_;rw[HN.out,if_neg (by omega)]
  have hhiI:(191:Int)<((s[1]'hp1).toNat:Int):=by omega
  clear hb1
  go_enter Tryz.func57,Tryz.ntmps57
  go_wp2
  go_ret
  exact⟨ret_int (by rw[HR.out];rfl),rfl⟩
 have hhiI:¬(191:Int)<((s[1]'hp1).toNat:Int):=by omega
 have HX:Hid (R=if(3≤4→128≤byN s 2∧byN s 2≤191)∧(4≤4→128≤byN s 3∧byN s 3≤191)then 4 else 0):=by
  show _=_
  rw[HN.out]
  congr 1;apply propext;constructor
  ·rintro⟨_,_,_,h⟩;exact h
  ·intro h;exact⟨by omega,by omega,by omega,h⟩
 clear HN hb1
 go_enter Tryz.func57,Tryz.ntmps57
 go_wp2
 go_loop [7] (fun i=>∃K:Nat,2≤K∧K≤4∧i= .int .i64 (K:Int)∧Hid (∀j,2≤j→j<K→128≤byN s j∧byN s j≤191)) (fun i=>4-(intOf i).toNat)
 case atStart=>exact⟨2,by omega,by omega,rfl,Lib.hid fun j h1 h2=>by omega⟩
 case round=>
  obtain⟨K,k2,kk,rfl,HK⟩:=hrel
  by_cases hlt2:K<4
  ·have hKs:K<s.size:=by omega
   have hKI:(K:Int)<4:=by omega
   have hKJ:(K:Int)<(s.size:Int):=by omega
   have hltK:(s[K]'hKs).toNat<256:=UInt8.toNat_lt _
   have hbK:=byN_at s hKs
   by_cases c1:(s[K]'hKs).toNat<128
   ·have HR:Hid (R=0):=by
     show _=_;rw[HX.out,if_neg]
     rintro⟨a1,a2⟩
     rcases(by omega:K=2∨K=3)with e|e
     ·have:=a1 (by omega);subst e;omega
     ·have:=a2 (by omega);subst e;omega
    have c1I:((s[K]'hKs).toNat:Int)<128:=by omega
    clear hbK
    go_wp2
    go_ret
    exact⟨ret_int (by rw[HR.out];rfl),rfl⟩
   have c1I:¬((s[K]'hKs).toNat:Int)<128:=by omega
   by_cases c2:191<(s[K]'hKs).toNat
   ·have HR:Hid (R=0):=by
     show _=_;rw[HX.out,if_neg]
     rintro⟨a1,a2⟩
     rcases(by omega:K=2∨K=3)with e|e
     ·have:=a1 (by omega);subst e;omega
     ·have:=a2 (by omega);subst e;omega
    have c2I:(191:Int)<((s[K]'hKs).toNat:Int):=by omega
    clear hbK
    go_wp2
    go_ret
    exact⟨ret_int (by rw[HR.out];rfl),rfl⟩
   have c2I:¬(191:Int)<((s[K]'hKs).toNat:Int):=by omega
   have HK':Hid (∀j,2≤j→j<K+1→128≤byN s j∧byN s j≤191):=Lib.hid fun j j1 j2=>by
    by_cases e:j=K
    ·subst e;omega
    ·exact HK.out j j1 (by omega)
   clear hbK HK
   go_wp2
   go_round
   case rel=>exact⟨K+1,by omega,by omega,by go_num,HK'⟩
   case measure=>simp[intOf];omega
  ·have HR:Hid (R=4):=by
    show _=_;rw[HX.out,if_pos]
    exact⟨fun h=>HK.out 2 (by omega) (by omega),fun h=>HK.out 3 (by omega) (by omega)⟩
   have hKI:¬(K:Int)<4:=by omega
   clear HK HX
   go_wp2
   go_ret
   exact⟨ret_int (by rw[HR.out];rfl),rfl⟩
set_option maxRecDepth 100000 in
set_option maxHeartbeats 2000000 in
theorem sign_241 (s:ByteArray) (w:World) (hs:s.size≤9223372036854775807) (hp:0<s.size) (h1:241≤byN s 0) (h2:byN s 0≤243):
 Calls Tryz.prog 57 #[.string s] w fun e w'=>e= .returned (.int .i64 (sgnL s.data.toList))∧w'=w:=by
 rw[sgnL_by]
 have HN:Hid (sgnN s.size (byN s 0) (byN s 1) (byN s 2) (byN s 3)=if 4≤s.size∧128≤byN s 1∧byN s 1≤191∧(3≤4→128≤byN s 2∧byN s 2≤191)∧(4≤4→128≤byN s 3∧byN s 3≤191)then 4 else 0):=
  sgnN_cls (by omega) (.inr (.inr ⟨by omega,by omega,rfl,by split<;>omega,by split<;>omega⟩))
 have hb:=byN_at s hp
 have h0I:((s.size:Int)==0)=false:=by rw[beq_eq_false_iff_ne];omega
 have hlt:(s[0]'hp).toNat<256:=UInt8.toNat_lt _
 rw[hb]at h1 h2
 clear hb
 have g1:(241:Int)≤((s[0]'hp).toNat:Int):=by omega
 have g2:((s[0]'hp).toNat:Int)≤243:=by omega
 have e224:(((s[0]'hp).toNat:Int)==224)=false:=by rw[beq_eq_false_iff_ne];omega
 have e237:(((s[0]'hp).toNat:Int)==237)=false:=by rw[beq_eq_false_iff_ne];omega
 have e240:(((s[0]'hp).toNat:Int)==240)=false:=by rw[beq_eq_false_iff_ne];omega
 have e244:(((s[0]'hp).toNat:Int)==244)=false:=by rw[beq_eq_false_iff_ne];omega
 generalize sgnN s.size (byN s 0) (byN s 1) (byN s 2) (byN s 3)=R at HN⊢
 by_cases hk:s.size<4
 ·have HR:Hid (R=0):=by show _=_;rw[HN.out,if_neg (by omega)]
  have hkI:(s.size:Int)<4:=by omega
  go_enter Tryz.func57,Tryz.ntmps57
  go_wp2
  go_ret
  exact⟨ret_int (by rw[HR.out];rfl),rfl⟩
 have hkI:(4:Int)≤(s.size:Int):=by omega
 have hp1:1<s.size:=by omega
 have hlt1:(s[1]'hp1).toNat<256:=UInt8.toNat_lt _
 have hb1:=byN_at s hp1
 have hl1:(1:Int)<(s.size:Int):=by omega
 by_cases hlo:(s[1]'hp1).toNat<128
 ·have HR:Hid (R=0):=by show _=_;rw[HN.out,if_neg (by omega)]
  have hloI:((s[1]'hp1).toNat:Int)<128:=by omega
  clear hb1
  go_enter Tryz.func57,Tryz.ntmps57
  go_wp2
  go_ret
  exact⟨ret_int (by rw[HR.out];rfl),rfl⟩
 have hloI:¬((s[1]'hp1).toNat:Int)<128:=by omega
 by_cases hhi:191<(s[1]'hp1).toNat
 ·have HR:Hid (R=0):=by show _=_;rw[HN.out,if_neg (by omega)]
  have hhiI:(191:Int)<((s[1]'hp1).toNat:Int):=by omega
  clear hb1
  go_enter Tryz.func57,Tryz.ntmps57
  go_wp2
  go_ret
  exact⟨ret_int (by rw[HR.out];rfl),rfl⟩
 have hhiI:¬(191:Int)<((s[1]'hp1).toNat:Int):=by omega
 have HX:Hid (R=if(3≤4→128≤byN s 2∧byN s 2≤191)∧(4≤4→128≤byN s 3∧byN s 3≤191)then 4 else 0):=by
  show _=_
  rw[HN.out]
  congr 1;apply propext;constructor
  ·rintro⟨_,_,_,h⟩;exact h
  ·intro h;exact⟨by omega,by omega,by omega,h⟩
 clear HN hb1
 go_enter Tryz.func57,Tryz.ntmps57
 go_wp2
 go_loop [7] (fun i=>∃K:Nat,2≤K∧K≤4∧i= .int .i64 (K:Int)∧Hid (∀j,2≤j→j<K→128≤byN s j∧byN s j≤191)) (fun i=>4-(intOf i).toNat)
 case atStart=>exact⟨2,by omega,by omega,rfl,Lib.hid fun j h1 h2=>by omega⟩
 case round=>
  obtain⟨K,k2,kk,rfl,HK⟩:=hrel
  by_cases hlt2:K<4
  ·have hKs:K<s.size:=by omega
   have hKI:(K:Int)<4:=by omega
   have hKJ:(K:Int)<(s.size:Int):=by omega
   have hltK:(s[K]'hKs).toNat<256:=UInt8.toNat_lt _
   have hbK:=byN_at s hKs
   by_cases c1:(s[K]'hKs).toNat<128
   ·have HR:Hid (R=0):=by
     show _=_;rw[HX.out,if_neg]
     rintro⟨a1,a2⟩
     rcases(by omega:K=2∨K=3)with e|e
     ·have:=a1 (by omega);subst e;omega
     ·have:=a2 (by omega);subst e;omega
    have c1I:((s[K]'hKs).toNat:Int)<128:=by omega
    clear hbK
    go_wp2
    go_ret
    exact⟨ret_int (by rw[HR.out];rfl),rfl⟩
   have c1I:¬((s[K]'hKs).toNat:Int)<128:=by omega
   by_cases c2:191<(s[K]'hKs).toNat
   ·have HR:Hid (R=0):=by
     show _=_;rw[HX.out,if_neg]
     rintro⟨a1,a2⟩
     rcases(by omega:K=2∨K=3)with e|e
     ·have:=a1 (by omega);subst e;omega
     ·have:=a2 (by omega);subst e;omega
    have c2I:(191:Int)<((s[K]'hKs).toNat:Int):=by omega
    clear hbK
    go_wp2
    go_ret
    exact⟨ret_int (by rw[HR.out];rfl),rfl⟩
   have c2I:¬(191:Int)<((s[K]'hKs).toNat:Int):=by omega
   have HK':Hid (∀j,2≤j→j<K+1→128≤byN s j∧byN s j≤191):=Lib.hid fun j j1 j2=>by
    by_cases e:j=K
    ·subst e;omega
    ·exact HK.out j j1 (by omega)
   clear hbK HK
   go_wp2
   go_round
   case rel=>exact⟨K+1,by omega,by omega,by go_num,HK'⟩
   case measure=>simp[intOf];omega
  ·have HR:Hid (R=4):=by
    show _=_;rw[HX.out,if_pos]
    exact⟨fun h=>HK.out 2 (by omega) (by omega),fun h=>HK.out 3 (by omega) (by omega)⟩
   have hKI:¬(K:Int)<4:=by omega
   clear HK HX
   go_wp2
   go_ret
   exact⟨ret_int (by rw[HR.out];rfl),rfl⟩
set_option maxRecDepth 100000 in
set_option maxHeartbeats 2000000 in
theorem sign_244 (s:ByteArray) (w:World) (hs:s.size≤9223372036854775807) (hp:0<s.size) (h1:244≤byN s 0) (h2:byN s 0≤244):
 Calls Tryz.prog 57 #[.string s] w fun e w'=>e= .returned (.int .i64 (sgnL s.data.toList))∧w'=w:=by
 rw[sgnL_by]
 have HN:Hid (sgnN s.size (byN s 0) (byN s 1) (byN s 2) (byN s 3)=if 4≤s.size∧128≤byN s 1∧byN s 1≤143∧(3≤4→128≤byN s 2∧byN s 2≤191)∧(4≤4→128≤byN s 3∧byN s 3≤191)then 4 else 0):=
  sgnN_cls (by omega) (.inr (.inr ⟨by omega,by omega,rfl,by split<;>omega,by split<;>omega⟩))
 have hb:=byN_at s hp
 have h0I:((s.size:Int)==0)=false:=by rw[beq_eq_false_iff_ne];omega
 have hlt:(s[0]'hp).toNat<256:=UInt8.toNat_lt _
 rw[hb]at h1 h2
 clear hb
 have g1:(244:Int)≤((s[0]'hp).toNat:Int):=by omega
 have g2:((s[0]'hp).toNat:Int)≤244:=by omega
 have e224:(((s[0]'hp).toNat:Int)==224)=false:=by rw[beq_eq_false_iff_ne];omega
 have e237:(((s[0]'hp).toNat:Int)==237)=false:=by rw[beq_eq_false_iff_ne];omega
 have e240:(((s[0]'hp).toNat:Int)==240)=false:=by rw[beq_eq_false_iff_ne];omega
 have e244:(((s[0]'hp).toNat:Int)==244)=true:=by rw[beq_iff_eq];omega
 generalize sgnN s.size (byN s 0) (byN s 1) (byN s 2) (byN s 3)=R at HN⊢
 by_cases hk:s.size<4
 ·have HR:Hid (R=0):=by show _=_;rw[HN.out,if_neg (by omega)]
  have hkI:(s.size:Int)<4:=by omega
  go_enter Tryz.func57,Tryz.ntmps57
  go_wp2
  go_ret
  exact⟨ret_int (by rw[HR.out];rfl),rfl⟩
 have hkI:(4:Int)≤(s.size:Int):=by omega
 have hp1:1<s.size:=by omega
 have hlt1:(s[1]'hp1).toNat<256:=UInt8.toNat_lt _
 have hb1:=byN_at s hp1
 have hl1:(1:Int)<(s.size:Int):=by omega
 by_cases hlo:(s[1]'hp1).toNat<128
 ·have HR:Hid (R=0):=by show _=_;rw[HN.out,if_neg (by omega)]
  have hloI:((s[1]'hp1).toNat:Int)<128:=by omega
  clear hb1
  go_enter Tryz.func57,Tryz.ntmps57
  go_wp2
  go_ret
  exact⟨ret_int (by rw[HR.out];rfl),rfl⟩
 have hloI:¬((s[1]'hp1).toNat:Int)<128:=by omega
 by_cases hhi:143<(s[1]'hp1).toNat
 ·have HR:Hid (R=0):=by show _=_;rw[HN.out,if_neg (by omega)]
  have hhiI:(143:Int)<((s[1]'hp1).toNat:Int):=by omega
  clear hb1
  go_enter Tryz.func57,Tryz.ntmps57
  go_wp2
  go_ret
  exact⟨ret_int (by rw[HR.out];rfl),rfl⟩
 have hhiI:¬(143:Int)<((s[1]'hp1).toNat:Int):=by omega
 have HX:Hid (R=if(3≤4→128≤byN s 2∧byN s 2≤191)∧(4≤4→128≤byN s 3∧byN s 3≤191)then 4 else 0):=by
  show _=_
  rw[HN.out]
  congr 1;apply propext;constructor
  ·rintro⟨_,_,_,h⟩;exact h
  ·intro h;exact⟨by omega,by omega,by omega,h⟩
 clear HN hb1
 go_enter Tryz.func57,Tryz.ntmps57
 go_wp2
 go_loop [7] (fun i=>∃K:Nat,2≤K∧K≤4∧i= .int .i64 (K:Int)∧Hid (∀j,2≤j→j<K→128≤byN s j∧byN s j≤191)) (fun i=>4-(intOf i).toNat)
 case atStart=>exact⟨2,by omega,by omega,rfl,Lib.hid fun j h1 h2=>by omega⟩
 case round=>
  obtain⟨K,k2,kk,rfl,HK⟩:=hrel
  by_cases hlt2:K<4
  ·have hKs:K<s.size:=by omega
   have hKI:(K:Int)<4:=by omega
   have hKJ:(K:Int)<(s.size:Int):=by omega
   have hltK:(s[K]'hKs).toNat<256:=UInt8.toNat_lt _
   have hbK:=byN_at s hKs
   by_cases c1:(s[K]'hKs).toNat<128
   ·have HR:Hid (R=0):=by
     show _=_;rw[HX.out,if_neg]
     rintro⟨a1,a2⟩
     rcases(by omega:K=2∨K=3)with e|e
     ·have:=a1 (by omega);subst e;omega
     ·have:=a2 (by omega);subst e;omega
    have c1I:((s[K]'hKs).toNat:Int)<128:=by omega
    clear hbK
    go_wp2
    go_ret
    exact⟨ret_int (by rw[HR.out];rfl),rfl⟩
   have c1I:¬((s[K]'hKs).toNat:Int)<128:=by omega
   by_cases c2:191<(s[K]'hKs).toNat
   ·have HR:Hid (R=0):=by
     show _=_;rw[HX.out,if_neg]
     rintro⟨a1,a2⟩
     rcases(by omega:K=2∨K=3)with e|e
     ·have:=a1 (by omega);subst e;omega
     ·have:=a2 (by omega);subst e;omega
    have c2I:(191:Int)<((s[K]'hKs).toNat:Int):=by omega
    clear hbK
    go_wp2
    go_ret
    exact⟨ret_int (by rw[HR.out];rfl),rfl⟩
   have c2I:¬(191:Int)<((s[K]'hKs).toNat:Int):=by omega
   have HK':Hid (∀j,2≤j→j<K+1→128≤byN s j∧byN s j≤191):=Lib.hid fun j j1 j2=>by
    by_cases e:j=K
    ·subst e;omega
    ·exact HK.out j j1 (by omega)
   clear hbK HK
   go_wp2
   go_round
   case rel=>exact⟨K+1,by omega,by omega,by go_num,HK'⟩
   case measure=>simp[intOf];omega
  ·have HR:Hid (R=4):=by
    show _=_;rw[HX.out,if_pos]
    exact⟨fun h=>HK.out 2 (by omega) (by omega),fun h=>HK.out 3 (by omega) (by omega)⟩
   have hKI:¬(K:Int)<4:=by omega
   clear HK HX
   go_wp2
   go_ret
   exact⟨ret_int (by rw[HR.out];rfl),rfl⟩
theorem sign_any (s:ByteArray) (w:World) (hs:s.size≤9223372036854775807):
 Calls Tryz.prog 57 #[.string s] w fun e w'=>e= .returned (.int .i64 (sgnL s.data.toList))∧w'=w:=by
 by_cases h0:s.size=0∨byN s 0<194∨244<byN s 0
 ·exact sign_low s w hs h0
 have hp:0<s.size:=by omega
 by_cases c0:byN s 0≤223
 ·exact sign_194 s w hs hp (by omega) c0
 by_cases c1:byN s 0≤224
 ·exact sign_224 s w hs hp (by omega) c1
 by_cases c2:byN s 0=237
 ·exact sign_237 s w hs hp (by omega) (by omega)
 by_cases c3:byN s 0≤239
 ·exact sign_225 s w hs hp (by omega) c3 c2
 by_cases c4:byN s 0≤240
 ·exact sign_240 s w hs hp (by omega) c4
 by_cases c5:byN s 0≤243
 ·exact sign_241 s w hs hp (by omega) c5
 exact sign_244 s w hs hp (by omega) (by omega)
end Go.Proofs.YtmhfioimgllgeaaGreatDoor
