/- Merged: Txt, Cln. -/
import Derived.Lib.ValidLaws
import Derived.Shelf.GgClosure.StringsIndexFunc
import Derived.Test.YtmhfioimgllgeaaGreatDoorR01
namespace Go.Proofs.YtmhfioimgllgeaaGreatDoor
open Go Go.Lib
def sgnN (n b0 b1 b2 b3:Nat):Nat:=
 if n=0 then 0 else if b0<128 then 1
 else if 194≤b0∧b0≤223 then(if 2≤n∧128≤b1∧b1≤191 then 2 else 0)
 else if 224≤b0∧b0≤239 then(if 3≤n∧(if b0=224 then 160 else 128)≤b1∧b1≤(if b0=237 then 159 else 191)∧128≤b2∧b2≤191 then 3 else 0)
 else if 240≤b0∧b0≤244 then(if 4≤n∧(if b0=240 then 144 else 128)≤b1∧b1≤(if b0=244 then 143 else 191)∧(128≤b2∧b2≤191)∧128≤b3∧b3≤191 then 4 else 0)
 else 0
def sgnL (l:List UInt8):Nat:=sgnN l.length (l.getD 0 0).toNat (l.getD 1 0).toNat (l.getD 2 0).toNat (l.getD 3 0).toNat
/-- Is the first byte one that no text has? -/
def oddB (b:UInt8):Bool:=decide (b.toNat<32)||b.toNat==127
def isTextF :Nat→List UInt8→Bool
 |0,_=>true
 |n+1,l=>if l= []then true else if sgnL l=0∨oddB (l.getD 0 0)=true then false else isTextF n (l.drop (sgnL l))
def isTextL (l:List UInt8):Bool:=isTextF l.length l
theorem sgn_decode (n b0 b1 b2 b3:Nat) (hn:1≤n) (h0:b0<256) (h1:b1<256) (h2:b2<256) (h3:b3<256):
 (sgnN n b0 b1 b2 b3=0∧decodeN n b0 b1 b2 b3=(65533,1))∨(sgnN n b0 b1 b2 b3=1∧b0<128∧decodeN n b0 b1 b2 b3=(b0,1))∨
 (2≤sgnN n b0 b1 b2 b3∧sgnN n b0 b1 b2 b3≤n∧(decodeN n b0 b1 b2 b3).2=sgnN n b0 b1 b2 b3∧128≤(decodeN n b0 b1 b2 b3).1∧128≤b0):=by
 have hz:¬n=0:=by omega
 by_cases a0:b0<128
 ·right;left
  simp[sgnN,decodeN,hz,a0]
 by_cases a1:194≤b0∧b0≤223
 ·have e:sgnN n b0 b1 b2 b3=if 2≤n∧128≤b1∧b1≤191 then 2 else 0:=by simp[sgnN,hz,a0,a1]
  have d:decodeN n b0 b1 b2 b3=if 2≤n∧128≤b1∧b1≤191 then(b0%32*64+b1%64,2)else(65533,1):=by
   unfold decodeN
   rw[if_neg a0]
   by_cases c:2≤n∧128≤b1∧b1≤191
   ·rw[if_pos (by omega),if_pos (by omega),if_pos c]
   ·rw[if_neg (by omega),if_neg (by omega),if_neg (by omega),if_neg c]
  rw[e,d]
  split
  ·right;right;exact⟨by omega,by omega,rfl,by show 128≤b0%32*64+b1%64;omega,by omega⟩
  ·left;exact⟨rfl,rfl⟩
 by_cases a2:224≤b0∧b0≤239
 ·obtain⟨lo,hlo⟩:∃lo,(if b0=224 then 160 else 128)=lo:=⟨_,rfl⟩
  obtain⟨hi,hhi⟩:∃hi,(if b0=237 then 159 else 191)=hi:=⟨_,rfl⟩
  have e:sgnN n b0 b1 b2 b3=if 3≤n∧lo≤b1∧b1≤hi∧128≤b2∧b2≤191 then 3 else 0:=by
   unfold sgnN
   rw[if_neg hz,if_neg a0,if_neg a1,if_pos a2,hlo,hhi]
  have b1':(b0=224∧lo=160)∨(b0≠224∧lo=128):=by split at hlo<;>omega
  have b2':(b0=237∧hi=159)∨(b0≠237∧hi=191):=by split at hhi<;>omega
  have d:decodeN n b0 b1 b2 b3=if 3≤n∧lo≤b1∧b1≤hi∧128≤b2∧b2≤191 then(b0%16*4096+b1%64*64+b2%64,3)else(65533,1):=by
   unfold decodeN
   rw[if_neg a0,if_neg (by omega)]
   by_cases c:3≤n∧(128≤b1∧b1≤191)∧128≤b2∧b2≤191
   ·rw[if_pos (by omega)]
    by_cases c':3≤n∧lo≤b1∧b1≤hi∧128≤b2∧b2≤191
    ·rw[if_pos (by omega),if_pos c']
    ·rw[if_neg (by omega),if_neg c']
   ·rw[if_neg (by omega),if_neg (by omega),if_neg (by omega)]
  rw[e,d]
  split
  ·right;right;exact⟨by omega,by omega,rfl,by show 128≤b0%16*4096+b1%64*64+b2%64;omega,by omega⟩
  ·left;exact⟨rfl,rfl⟩
 by_cases a3:240≤b0∧b0≤244
 ·obtain⟨lo,hlo⟩:∃lo,(if b0=240 then 144 else 128)=lo:=⟨_,rfl⟩
  obtain⟨hi,hhi⟩:∃hi,(if b0=244 then 143 else 191)=hi:=⟨_,rfl⟩
  have e:sgnN n b0 b1 b2 b3=if 4≤n∧lo≤b1∧b1≤hi∧(128≤b2∧b2≤191)∧128≤b3∧b3≤191 then 4 else 0:=by
   unfold sgnN
   rw[if_neg hz,if_neg a0,if_neg a1,if_neg a2,if_pos a3,hlo,hhi]
  have b1':(b0=240∧lo=144)∨(b0≠240∧lo=128):=by split at hlo<;>omega
  have b2':(b0=244∧hi=143)∨(b0≠244∧hi=191):=by split at hhi<;>omega
  have d:decodeN n b0 b1 b2 b3=if 4≤n∧lo≤b1∧b1≤hi∧(128≤b2∧b2≤191)∧128≤b3∧b3≤191 then(b0%8*262144+b1%64*4096+b2%64*64+b3%64,4)else(65533,1):=by
   unfold decodeN
   rw[if_neg a0,if_neg (by omega),if_neg (by omega)]
   by_cases c:4≤n∧(128≤b1∧b1≤191)∧(128≤b2∧b2≤191)∧128≤b3∧b3≤191
   ·rw[if_pos (by omega)]
    by_cases c':4≤n∧lo≤b1∧b1≤hi∧(128≤b2∧b2≤191)∧128≤b3∧b3≤191
    ·rw[if_pos (by omega),if_pos c']
    ·rw[if_neg (by omega),if_neg c']
   ·rw[if_neg (by omega),if_neg (by omega)]
  rw[e,d]
  split
  ·right;right;exact⟨by omega,by omega,rfl,by show 128≤b0%8*262144+b1%64*4096+b2%64*64+b3%64;omega,by omega⟩
  ·left;exact⟨rfl,rfl⟩
 ·left
  exact⟨by simp[sgnN,hz,a0,a1,a2,a3],decodeN_bad _ _ _ _ _ (by omega)⟩
theorem sgnL_decode (l:List UInt8) (hl:l≠ []):(sgnL l=0∧decodeL l=(65533,1))∨(sgnL l=1∧(l.getD 0 0).toNat<128∧decodeL l=((l.getD 0 0).toNat,1))∨
 (2≤sgnL l∧sgnL l≤l.length∧(decodeL l).2=sgnL l∧128≤(decodeL l).1∧128≤(l.getD 0 0).toNat):=by
 rw[decodeL_N]
 exact sgn_decode _ _ _ _ _ (List.length_pos_iff.2 hl) (UInt8.toNat_lt _) (UInt8.toNat_lt _) (UInt8.toNat_lt _) (UInt8.toNat_lt _)
theorem sgnL_le (l:List UInt8):sgnL l≤l.length:=by
 by_cases hl:l= []
 ·subst hl;decide
 ·have h0:=List.length_pos_iff.2 hl
  rcases sgnL_decode l hl with ⟨h,_⟩|⟨h,_⟩|⟨_,h,_⟩<;>omega
theorem sgnL_le4 (l:List UInt8):sgnL l≤4:=by
 unfold sgnL sgnN
 repeat' split
 all_goals omega
theorem isTextF_nil :∀n,isTextF n []=true
 |0=>rfl
 |_+1=>by rw[isTextF,if_pos rfl]
theorem isTextF_fuel :∀(n m:Nat) (l:List UInt8),l.length≤n→l.length≤m→isTextF n l=isTextF m l
 |0,m,l,h,_=>by
  have:l= []:=List.length_eq_zero_iff.1 (by omega)
  subst this
  rw[isTextF_nil,isTextF_nil]
 |n+1,0,l,_,h=>by
  have:l= []:=List.length_eq_zero_iff.1 (by omega)
  subst this
  rw[isTextF_nil,isTextF_nil]
 |n+1,m+1,l,h,h'=>by
  unfold isTextF
  by_cases c:l= []
  ·rw[if_pos c,if_pos c]
  rw[if_neg c,if_neg c]
  by_cases c2:sgnL l=0∨oddB (l.getD 0 0)=true
  ·rw[if_pos c2,if_pos c2]
  rw[if_neg c2,if_neg c2]
  have h0:=List.length_pos_iff.2 c
  exact isTextF_fuel n m _ (by rw[List.length_drop];omega) (by rw[List.length_drop];omega)
theorem isTextL_step (l:List UInt8) (hl:l≠ []):isTextL l=if sgnL l=0∨oddB (l.getD 0 0)=true then false else isTextL (l.drop (sgnL l)):=by
 obtain⟨b,t,rfl⟩:∃b t,l=b :: t:=by cases l with|nil=>exact absurd rfl hl|cons b t=>exact⟨b,t,rfl⟩
 show isTextF (t.length+1) (b :: t)=_
 rw[isTextF,if_neg (by simp)]
 split
 ·rfl
 ·rename_i h
  refine isTextF_fuel _ _ _ ?_ (by omega)
  rw[List.length_drop]
  simp only[List.length_cons]
  omega
/-- What the program asks of a rune: is it one that no text has? -/
def oddR (r:Nat):Bool:=decide (r<32)||r==127
theorem txt_from (s:ByteArray):∀(f pos:Nat),s.size-pos≤f→pos≤s.size→
 (validD (s.data.toList.drop pos)&& !decide (0≤idxFuncFrom oddR true s f pos))=isTextL (s.data.toList.drop pos)
 |0,pos,h,h'=>by
  have:s.data.toList.drop pos= []:=List.drop_eq_nil_of_le (by rw[←size_eq];omega)
  rw[this];rfl
 |f+1,pos,h,h'=>by
  by_cases c:pos<s.size
  ·obtain⟨l,hl⟩:∃l,s.data.toList.drop pos=l:=⟨_,rfl⟩
   have hne:l≠ []:=by rw[←hl];intro e;have:=congrArg List.length e;rw[List.length_drop,←size_eq]at this;simp at this;omega
   have hlen:l.length=s.size-pos:=by rw[←hl,List.length_drop,←size_eq]
   have hd:Utf8.decode s pos=decodeL l:=by
    rw[decode_N,decodeL_N,←hl,List.length_drop]
    congr 1<;>simp[List.getD_eq_getElem?_getD,List.getElem?_drop]
   have hv:=validD_step l hne
   have ht:=isTextL_step l hne
   have hsl:=sgnL_le l
   have key:∀k,1≤k→k≤l.length→(validD (l.drop k)&& !decide (0≤idxFuncFrom oddR true s f (pos+k)))=isTextL (l.drop k):=by
    intro k k1 k2
    have:=txt_from s f (pos+k) (by omega) (by omega)
    rwa [←List.drop_drop,hl]at this
   rw[hl,idxFuncFrom,if_pos c,hd,ht]
   rcases sgnL_decode l hne with ⟨h1,h2⟩|⟨h1,h2,h3⟩|⟨h1,h2,h3,h4,h5⟩
   ·rw[h2,if_pos ⟨rfl,rfl⟩]at hv
    rw[hv,if_pos (Or.inl h1)];rfl
   ·rw[h3,if_neg (by show ¬((l.getD 0 0).toNat=65533∧1=1);omega)]at hv
    rw[hv,h3,h1]
    by_cases ho:oddB (l.getD 0 0)=true
    ·have hor:oddR (l.getD 0 0).toNat=true:=ho
     rw[if_pos hor,if_pos (show 1=0∨oddB (l.getD 0 0)=true from Or.inr ho),decide_eq_true (Int.natCast_nonneg pos)]
     exact Bool.and_false _
    ·have hor:¬oddR (l.getD 0 0).toNat=true:=ho
     rw[if_neg hor,if_neg (show ¬(1=0∨oddB (l.getD 0 0)=true)from fun e=>e.elim (by omega) ho)]
     exact key 1 (by omega) (by omega)
   ·have hor:¬oddR (decodeL l).1=true:=by simp only[oddR,Bool.or_eq_true,decide_eq_true_eq,beq_iff_eq];omega
    have hob:¬oddB (l.getD 0 0)=true:=by simp only[oddB,Bool.or_eq_true,decide_eq_true_eq,beq_iff_eq];omega
    rw[if_neg (by omega)]at hv
    rw[hv,if_neg hor,if_neg (show ¬(sgnL l=0∨oddB (l.getD 0 0)=true)from fun e=>e.elim (by omega) hob),h3]
    exact key _ (by omega) h2
  ·have:s.data.toList.drop pos= []:=List.drop_eq_nil_of_le (by rw[←size_eq];omega)
   rw[this,idxFuncFrom,if_neg c];rfl
/-- The library's two questions together: is it a text? -/
theorem txt_both (s:ByteArray):(validD s.data.toList&& !decide (0≤idxFunc oddR true s))=isTextL s.data.toList:=by
 have:=txt_from s s.size 0 (by omega) (by omega)
 rwa [List.drop_zero]at this
end Go.Proofs.YtmhfioimgllgeaaGreatDoor
namespace Go.Proofs.YtmhfioimgllgeaaGreatDoor
open Go Go.Lib
theorem sgnN_more {n n' b0 b1 b2 b3 c1 c2 c3:Nat} (h:0<sgnN n b0 b1 b2 b3) (hn:n≤n') (h1:2≤n→c1=b1) (h2:3≤n→c2=b2) (h3:4≤n→c3=b3):
 sgnN n' b0 c1 c2 c3=sgnN n b0 b1 b2 b3:=by
 by_cases z:n=0
 ·subst z;simp[sgnN]at h
 have z':¬n'=0:=by omega
 unfold sgnN at*
 rw[if_neg z]at h⊢
 rw[if_neg z']
 by_cases a0:b0<128
 ·rw[if_pos a0,if_pos a0]
 rw[if_neg a0]at h⊢
 rw[if_neg a0]
 by_cases a1:194≤b0∧b0≤223
 ·rw[if_pos a1]at h⊢
  rw[if_pos a1]
  by_cases c:2≤n∧128≤b1∧b1≤191
  ·rw[if_pos c,if_pos (by omega)]
  ·rw[if_neg c]at h;omega
 rw[if_neg a1]at h⊢
 rw[if_neg a1]
 by_cases a2:224≤b0∧b0≤239
 ·rw[if_pos a2]at h⊢
  rw[if_pos a2]
  generalize (if b0=224 then 160 else 128)=lo at*
  generalize (if b0=237 then 159 else 191)=hi at*
  by_cases c:3≤n∧lo≤b1∧b1≤hi∧128≤b2∧b2≤191
  ·rw[if_pos c,if_pos (by omega)]
  ·rw[if_neg c]at h;omega
 rw[if_neg a2]at h⊢
 rw[if_neg a2]
 by_cases a3:240≤b0∧b0≤244
 ·rw[if_pos a3]at h⊢
  rw[if_pos a3]
  generalize (if b0=240 then 144 else 128)=lo at*
  generalize (if b0=244 then 143 else 191)=hi at*
  by_cases c:4≤n∧lo≤b1∧b1≤hi∧(128≤b2∧b2≤191)∧128≤b3∧b3≤191
  ·rw[if_pos c,if_pos (by omega)]
  ·rw[if_neg c]at h;omega
 ·rw[if_neg a3]at h;omega
theorem getD_app {a b:List UInt8} {i:Nat} (h:i<a.length):(a++b).getD i 0=a.getD i 0:=by
 simp[List.getD_eq_getElem?_getD,List.getElem?_append_left h]
theorem sgnL_app {a:List UInt8} (b:List UInt8) (h:0<sgnL a):sgnL (a++b)=sgnL a:=by
 have hl:0<a.length:=by have:=sgnL_le a;omega
 unfold sgnL at*
 rw[getD_app hl]
 refine sgnN_more h (by rw[List.length_append];omega) (fun e=> ?_) (fun e=> ?_) (fun e=> ?_)<;>rw[getD_app (by omega)]
theorem sgnN_need {n b0 b1 b2 b3:Nat} (h:0<sgnN n b0 b1 b2 b3):sgnN (sgnN n b0 b1 b2 b3) b0 (if 2≤sgnN n b0 b1 b2 b3 then b1 else 0) (if 3≤sgnN n b0 b1 b2 b3 then b2 else 0) (if 4≤sgnN n b0 b1 b2 b3 then b3 else 0)=sgnN n b0 b1 b2 b3:=by
 by_cases z:n=0
 ·subst z;simp[sgnN]at h
 obtain⟨lo2,hlo2⟩:∃lo,(if b0=224 then 160 else 128)=lo:=⟨_,rfl⟩
 obtain⟨hi2,hhi2⟩:∃hi,(if b0=237 then 159 else 191)=hi:=⟨_,rfl⟩
 obtain⟨lo3,hlo3⟩:∃lo,(if b0=240 then 144 else 128)=lo:=⟨_,rfl⟩
 obtain⟨hi3,hhi3⟩:∃hi,(if b0=244 then 143 else 191)=hi:=⟨_,rfl⟩
 have e:∀n b1 b2 b3,sgnN n b0 b1 b2 b3=if n=0 then 0 else if b0<128 then 1
  else if 194≤b0∧b0≤223 then(if 2≤n∧128≤b1∧b1≤191 then 2 else 0)
  else if 224≤b0∧b0≤239 then(if 3≤n∧lo2≤b1∧b1≤hi2∧128≤b2∧b2≤191 then 3 else 0)
  else if 240≤b0∧b0≤244 then(if 4≤n∧lo3≤b1∧b1≤hi3∧(128≤b2∧b2≤191)∧128≤b3∧b3≤191 then 4 else 0)else 0:=by
  intro n b1 b2 b3;rw[←hlo2,←hhi2,←hlo3,←hhi3];rfl
 have hv:=e n b1 b2 b3
 rw[if_neg z]at hv
 by_cases a0:b0<128
 ·rw[if_pos a0]at hv
  rw[hv,e,if_neg (by omega),if_pos a0]
 rw[if_neg a0]at hv
 by_cases a1:194≤b0∧b0≤223
 ·rw[if_pos a1]at hv
  by_cases c:2≤n∧128≤b1∧b1≤191
  ·rw[if_pos c]at hv
   rw[hv,e,if_neg (by omega),if_neg a0,if_pos a1,if_pos (by rw[if_pos (by omega)];omega)]
  ·rw[if_neg c]at hv;omega
 rw[if_neg a1]at hv
 by_cases a2:224≤b0∧b0≤239
 ·rw[if_pos a2]at hv
  by_cases c:3≤n∧lo2≤b1∧b1≤hi2∧128≤b2∧b2≤191
  ·rw[if_pos c]at hv
   rw[hv,e,if_neg (by omega),if_neg a0,if_neg a1,if_pos a2,if_pos (by rw[if_pos (by omega),if_pos (by omega)];omega)]
  ·rw[if_neg c]at hv;omega
 rw[if_neg a2]at hv
 by_cases a3:240≤b0∧b0≤244
 ·rw[if_pos a3]at hv
  by_cases c:4≤n∧lo3≤b1∧b1≤hi3∧(128≤b2∧b2≤191)∧128≤b3∧b3≤191
  ·rw[if_pos c]at hv
   rw[hv,e,if_neg (by omega),if_neg a0,if_neg a1,if_neg a2,if_pos a3,if_pos (by rw[if_pos (by omega),if_pos (by omega),if_pos (by omega)];omega)]
  ·rw[if_neg c]at hv;omega
 ·rw[if_neg a3]at hv;omega
theorem getD_take {l:List UInt8} {k i:Nat}:(l.take k).getD i 0=if i<k then l.getD i 0 else 0:=by
 simp only[List.getD_eq_getElem?_getD,List.getElem?_take]
 split<;>rfl
theorem sgnL_take {l:List UInt8} (h:0<sgnL l):sgnL (l.take (sgnL l))=sgnL l:=by
 have hle:=sgnL_le l
 have hn:=sgnN_need h
 show sgnN (l.take (sgnL l)).length ((l.take (sgnL l)).getD 0 0).toNat ((l.take (sgnL l)).getD 1 0).toNat ((l.take (sgnL l)).getD 2 0).toNat ((l.take (sgnL l)).getD 3 0).toNat=sgnL l
 rw[List.length_take,Nat.min_eq_left hle,getD_take,getD_take,getD_take,getD_take,if_pos h]
 have e:sgnL l=sgnN l.length (l.getD 0 0).toNat (l.getD 1 0).toNat (l.getD 2 0).toNat (l.getD 3 0).toNat:=rfl
 rw[←e]at hn
 refine Eq.trans ?_ hn
 congr 1
 ·by_cases c:1<sgnL l
  ·rw[if_pos c,if_pos (by omega)]
  ·rw[if_neg c,if_neg (by omega)];rfl
 ·by_cases c:2<sgnL l
  ·rw[if_pos c,if_pos (by omega)]
  ·rw[if_neg c,if_neg (by omega)];rfl
 ·by_cases c:3<sgnL l
  ·rw[if_pos c,if_pos (by omega)]
  ·rw[if_neg c,if_neg (by omega)];rfl
theorem isTextL_app :∀(n:Nat) (a b:List UInt8),a.length≤n→isTextL a=true→isTextL b=true→isTextL (a++b)=true
 |0,a,b,h,_,hb=>by
  have:a= []:=List.length_eq_zero_iff.1 (by omega)
  subst this;exact hb
 |n+1,a,b,h,ha,hb=>by
  by_cases c:a= []
  ·subst c;exact hb
  have h0:=List.length_pos_iff.2 c
  rw[isTextL_step a c]at ha
  by_cases d:sgnL a=0∨oddB (a.getD 0 0)=true
  ·rw[if_pos d]at ha;cases ha
  rw[if_neg d]at ha
  have hs:0<sgnL a:=Nat.pos_of_ne_zero fun e=>d (Or.inl e)
  have hle:=sgnL_le a
  rw[isTextL_step _ (by simp[c]),sgnL_app b hs,getD_app h0,if_neg d,List.drop_append_of_le_length hle]
  exact isTextL_app n _ b (by rw[List.length_drop];omega) ha hb
theorem isTextL_sign {l:List UInt8} (h:¬(sgnL l=0∨oddB (l.getD 0 0)=true)):isTextL (l.take (sgnL l))=true:=by
 have hs:0<sgnL l:=Nat.pos_of_ne_zero fun e=>h (Or.inl e)
 have hle:=sgnL_le l
 rw[isTextL_step _ (by intro e;have:=congrArg List.length e;rw[List.length_take,List.length_nil]at this;omega),sgnL_take hs,getD_take,if_pos hs,if_neg h,
  List.drop_eq_nil_of_le (by rw[List.length_take];omega)]
 rfl
/-- What is right of a list of bytes from the front, sign by sign, forty bytes at most; 'out' is what there is already. -/
def pureF :Nat→List UInt8→List UInt8→List UInt8
 |0,_,out=>out
 |n+1,l,out=>if l= []∨37≤out.length then out else if sgnL l=0∨oddB (l.getD 0 0)=true then pureF n (l.drop 1) out else pureF n (l.drop (sgnL l)) (out++l.take (sgnL l))
def pureL (l:List UInt8):List UInt8:=pureF l.length l []
theorem pureF_end {l out:List UInt8} (h:l= []∨37≤out.length):∀n,pureF n l out=out
 |0=>rfl
 |_+1=>by rw[pureF,if_pos h]
theorem pureF_fuel :∀(n m:Nat) (l out:List UInt8),l.length≤n→l.length≤m→pureF n l out=pureF m l out
 |0,m,l,out,h,_=>by
  have:l= []:=List.length_eq_zero_iff.1 (by omega)
  rw[pureF_end (Or.inl this),pureF_end (Or.inl this)]
 |n+1,0,l,out,_,h=>by
  have:l= []:=List.length_eq_zero_iff.1 (by omega)
  rw[pureF_end (Or.inl this),pureF_end (Or.inl this)]
 |n+1,m+1,l,out,h,h'=>by
  unfold pureF
  by_cases c:l= []∨37≤out.length
  ·rw[if_pos c,if_pos c]
  rw[if_neg c,if_neg c]
  have h0:=List.length_pos_iff.2 (fun e=>c (Or.inl e))
  by_cases c2:sgnL l=0∨oddB (l.getD 0 0)=true
  ·rw[if_pos c2,if_pos c2]
   exact pureF_fuel n m _ _ (by rw[List.length_drop];omega) (by rw[List.length_drop];omega)
  ·rw[if_neg c2,if_neg c2]
   exact pureF_fuel n m _ _ (by rw[List.length_drop];omega) (by rw[List.length_drop];omega)
theorem pureF_right :∀(n:Nat) (l out:List UInt8),out.length≤40→isTextL out=true→(pureF n l out).length≤40∧isTextL (pureF n l out)=true
 |0,_,out,h,ht=>⟨h,ht⟩
 |n+1,l,out,h,ht=>by
  unfold pureF
  by_cases c:l= []∨37≤out.length
  ·rw[if_pos c];exact⟨h,ht⟩
  rw[if_neg c]
  have hle:=sgnL_le4 l
  have hout:out.length<37:=by
   rcases Nat.lt_or_ge out.length 37 with h|h
   ·exact h
   ·exact absurd (Or.inr h) c
  by_cases c2:sgnL l=0∨oddB (l.getD 0 0)=true
  ·rw[if_pos c2];exact pureF_right n _ _ h ht
  ·rw[if_neg c2]
   exact pureF_right n _ _ (by rw[List.length_append,List.length_take];omega) (isTextL_app _ _ _ (Nat.le_refl _) ht (isTextL_sign c2))
theorem pureL_right (l:List UInt8):(pureL l).length≤40∧isTextL (pureL l)=true:=pureF_right _ _ _ (by decide) rfl
end Go.Proofs.YtmhfioimgllgeaaGreatDoor
