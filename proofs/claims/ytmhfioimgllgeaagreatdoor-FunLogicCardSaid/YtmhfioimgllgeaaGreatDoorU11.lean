/- The right part of a list of bytes, sign by sign: it is a text, and short. Plain: no program. -/
import Derived.Test.YtmhfioimgllgeaaGreatDoorU01
import Derived.Test.YtmhfioimgllgeaaGreatDoorU10
namespace Go.Proofs.YtmhfioimgllgeaaGreatDoor
open Go Go.Lib
theorem sgnN_more {n n' b0 b1 b2 b3 c1 c2 c3:Nat} (h:0<sgnN n b0 b1 b2 b3) (hn:n≤n') (h1:2≤n→c1=b1) (h2:3≤n→c2=b2) (h3:4≤n→c3=b3):
 sgnN n' b0 c1 c2 c3=sgnN n b0 b1 b2 b3:=by
 by_cases z:n=0
 ·subst z;simp[sgnN]at h
 have z':¬n'=0:=by omega
 unfold sgnN at*
 rw[if_neg z]at h⊢
 rw[if_neg z']
 by_cases a0:b0<128
 ·rw[if_pos a0,if_pos a0]
 rw[if_neg a0]at h⊢
 rw[if_neg a0]
 by_cases a1:194≤b0∧b0≤223
 ·rw[if_pos a1]at h⊢
  rw[if_pos a1]
  by_cases c:2≤n∧128≤b1∧b1≤191
  ·rw[if_pos c,if_pos (by omega)]
  ·rw[if_neg c]at h;omega
 rw[if_neg a1]at h⊢
 rw[if_neg a1]
 by_cases a2:224≤b0∧b0≤239
 ·rw[if_pos a2]at h⊢
  rw[if_pos a2]
  generalize (if b0=224 then 160 else 128)=lo at*
  generalize (if b0=237 then 159 else 191)=hi at*
  by_cases c:3≤n∧lo≤b1∧b1≤hi∧128≤b2∧b2≤191
  ·rw[if_pos c,if_pos (by omega)]
  ·rw[if_neg c]at h;omega
 rw[if_neg a2]at h⊢
 rw[if_neg a2]
 by_cases a3:240≤b0∧b0≤244
 ·rw[if_pos a3]at h⊢
  rw[if_pos a3]
  generalize (if b0=240 then 144 else 128)=lo at*
  generalize (if b0=244 then 143 else 191)=hi at*
  by_cases c:4≤n∧lo≤b1∧b1≤hi∧(128≤b2∧b2≤191)∧128≤b3∧b3≤191
  ·rw[if_pos c,if_pos (by omega)]
  ·rw[if_neg c]at h;omega
 ·rw[if_neg a3]at h;omega
theorem getD_app {a b:List UInt8} {i:Nat} (h:i<a.length):(a++b).getD i 0=a.getD i 0:=by
 simp[List.getD_eq_getElem?_getD,List.getElem?_append_left h]
theorem sgnL_app {a:List UInt8} (b:List UInt8) (h:0<sgnL a):sgnL (a++b)=sgnL a:=by
 have hl:0<a.length:=by have:=sgnL_le a;omega
 unfold sgnL at*
 rw[getD_app hl]
 refine sgnN_more h (by rw[List.length_append];omega) (fun e=> ?_) (fun e=> ?_) (fun e=> ?_)<;>rw[getD_app (by omega)]
theorem sgnN_need {n b0 b1 b2 b3:Nat} (h:0<sgnN n b0 b1 b2 b3):sgnN (sgnN n b0 b1 b2 b3) b0 (if 2≤sgnN n b0 b1 b2 b3 then b1 else 0) (if 3≤sgnN n b0 b1 b2 b3 then b2 else 0) (if 4≤sgnN n b0 b1 b2 b3 then b3 else 0)=sgnN n b0 b1 b2 b3:=by
 by_cases z:n=0
 ·subst z;simp[sgnN]at h
 obtain⟨lo2,hlo2⟩:∃lo,(if b0=224 then 160 else 128)=lo:=⟨_,rfl⟩
 obtain⟨hi2,hhi2⟩:∃hi,(if b0=237 then 159 else 191)=hi:=⟨_,rfl⟩
 obtain⟨lo3,hlo3⟩:∃lo,(if b0=240 then 144 else 128)=lo:=⟨_,rfl⟩
 obtain⟨hi3,hhi3⟩:∃hi,(if b0=244 then 143 else 191)=hi:=⟨_,rfl⟩
 have e:∀n b1 b2 b3,sgnN n b0 b1 b2 b3=if n=0 then 0 else if b0<128 then 1
  else if 194≤b0∧b0≤223 then(if 2≤n∧128≤b1∧b1≤191 then 2 else 0)
  else if 224≤b0∧b0≤239 then(if 3≤n∧lo2≤b1∧b1≤hi2∧128≤b2∧b2≤191 then 3 else 0)
  else if 240≤b0∧b0≤244 then(if 4≤n∧lo3≤b1∧b1≤hi3∧(128≤b2∧b2≤191)∧128≤b3∧b3≤191 then 4 else 0)else 0:=by
  intro n b1 b2 b3;rw[←hlo2,←hhi2,←hlo3,←hhi3];rfl
 have hv:=e n b1 b2 b3
 rw[if_neg z]at hv
 by_cases a0:b0<128
 ·rw[if_pos a0]at hv
  rw[hv,e,if_neg (by omega),if_pos a0]
 rw[if_neg a0]at hv
 by_cases a1:194≤b0∧b0≤223
 ·rw[if_pos a1]at hv
  by_cases c:2≤n∧128≤b1∧b1≤191
  ·rw[if_pos c]at hv
   rw[hv,e,if_neg (by omega),if_neg a0,if_pos a1,if_pos (by rw[if_pos (by omega)];omega)]
  ·rw[if_neg c]at hv;omega
 rw[if_neg a1]at hv
 by_cases a2:224≤b0∧b0≤239
 ·rw[if_pos a2]at hv
  by_cases c:3≤n∧lo2≤b1∧b1≤hi2∧128≤b2∧b2≤191
  ·rw[if_pos c]at hv
   rw[hv,e,if_neg (by omega),if_neg a0,if_neg a1,if_pos a2,if_pos (by rw[if_pos (by omega),if_pos (by omega)];omega)]
  ·rw[if_neg c]at hv;omega
 rw[if_neg a2]at hv
 by_cases a3:240≤b0∧b0≤244
 ·rw[if_pos a3]at hv
  by_cases c:4≤n∧lo3≤b1∧b1≤hi3∧(128≤b2∧b2≤191)∧128≤b3∧b3≤191
  ·rw[if_pos c]at hv
   rw[hv,e,if_neg (by omega),if_neg a0,if_neg a1,if_neg a2,if_pos a3,if_pos (by rw[if_pos (by omega),if_pos (by omega),if_pos (by omega)];omega)]
  ·rw[if_neg c]at hv;omega
 ·rw[if_neg a3]at hv;omega
theorem getD_take {l:List UInt8} {k i:Nat}:(l.take k).getD i 0=if i<k then l.getD i 0 else 0:=by
 simp only[List.getD_eq_getElem?_getD,List.getElem?_take]
 split<;>rfl
theorem sgnL_take {l:List UInt8} (h:0<sgnL l):sgnL (l.take (sgnL l))=sgnL l:=by
 have hle:=sgnL_le l
 have hn:=sgnN_need h
 show sgnN (l.take (sgnL l)).length ((l.take (sgnL l)).getD 0 0).toNat ((l.take (sgnL l)).getD 1 0).toNat ((l.take (sgnL l)).getD 2 0).toNat ((l.take (sgnL l)).getD 3 0).toNat=sgnL l
 rw[List.length_take,Nat.min_eq_left hle,getD_take,getD_take,getD_take,getD_take,if_pos h]
 have e:sgnL l=sgnN l.length (l.getD 0 0).toNat (l.getD 1 0).toNat (l.getD 2 0).toNat (l.getD 3 0).toNat:=rfl
 rw[←e]at hn
 refine Eq.trans ?_ hn
 congr 1
 ·by_cases c:1<sgnL l
  ·rw[if_pos c,if_pos (by omega)]
  ·rw[if_neg c,if_neg (by omega)];rfl
 ·by_cases c:2<sgnL l
  ·rw[if_pos c,if_pos (by omega)]
  ·rw[if_neg c,if_neg (by omega)];rfl
 ·by_cases c:3<sgnL l
  ·rw[if_pos c,if_pos (by omega)]
  ·rw[if_neg c,if_neg (by omega)];rfl
theorem isTextL_app :∀(n:Nat) (a b:List UInt8),a.length≤n→isTextL a=true→isTextL b=true→isTextL (a++b)=true
 |0,a,b,h,_,hb=>by
  have:a= []:=List.length_eq_zero_iff.1 (by omega)
  subst this;exact hb
 |n+1,a,b,h,ha,hb=>by
  by_cases c:a= []
  ·subst c;exact hb
  have h0:=List.length_pos_iff.2 c
  rw[isTextL_step a c]at ha
  by_cases d:sgnL a=0∨oddB (a.getD 0 0)=true
  ·rw[if_pos d]at ha;cases ha
  rw[if_neg d]at ha
  have hs:0<sgnL a:=Nat.pos_of_ne_zero fun e=>d (Or.inl e)
  have hle:=sgnL_le a
  rw[isTextL_step _ (by simp[c]),sgnL_app b hs,getD_app h0,if_neg d,List.drop_append_of_le_length hle]
  exact isTextL_app n _ b (by rw[List.length_drop];omega) ha hb
theorem isTextL_sign {l:List UInt8} (h:¬(sgnL l=0∨oddB (l.getD 0 0)=true)):isTextL (l.take (sgnL l))=true:=by
 have hs:0<sgnL l:=Nat.pos_of_ne_zero fun e=>h (Or.inl e)
 have hle:=sgnL_le l
 rw[isTextL_step _ (by intro e;have:=congrArg List.length e;rw[List.length_take,List.length_nil]at this;omega),sgnL_take hs,getD_take,if_pos hs,if_neg h,
  List.drop_eq_nil_of_le (by rw[List.length_take];omega)]
 rfl
/-- What is right of a list of bytes from the front, sign by sign, forty bytes at most; 'out' is what there is already. -/
def pureF :Nat→List UInt8→List UInt8→List UInt8
 |0,_,out=>out
 |n+1,l,out=>if l= []∨37≤out.length then out else if sgnL l=0∨oddB (l.getD 0 0)=true then pureF n (l.drop 1) out else pureF n (l.drop (sgnL l)) (out++l.take (sgnL l))
def pureL (l:List UInt8):List UInt8:=pureF l.length l []
theorem pureF_end {l out:List UInt8} (h:l= []∨37≤out.length):∀n,pureF n l out=out
 |0=>rfl
 |_+1=>by rw[pureF,if_pos h]
theorem pureF_fuel :∀(n m:Nat) (l out:List UInt8),l.length≤n→l.length≤m→pureF n l out=pureF m l out
 |0,m,l,out,h,_=>by
  have:l= []:=List.length_eq_zero_iff.1 (by omega)
  rw[pureF_end (Or.inl this),pureF_end (Or.inl this)]
 |n+1,0,l,out,_,h=>by
  have:l= []:=List.length_eq_zero_iff.1 (by omega)
  rw[pureF_end (Or.inl this),pureF_end (Or.inl this)]
 |n+1,m+1,l,out,h,h'=>by
  unfold pureF
  by_cases c:l= []∨37≤out.length
  ·rw[if_pos c,if_pos c]
  rw[if_neg c,if_neg c]
  have h0:=List.length_pos_iff.2 (fun e=>c (Or.inl e))
  by_cases c2:sgnL l=0∨oddB (l.getD 0 0)=true
  ·rw[if_pos c2,if_pos c2]
   exact pureF_fuel n m _ _ (by rw[List.length_drop];omega) (by rw[List.length_drop];omega)
  ·rw[if_neg c2,if_neg c2]
   exact pureF_fuel n m _ _ (by rw[List.length_drop];omega) (by rw[List.length_drop];omega)
theorem pureF_right :∀(n:Nat) (l out:List UInt8),out.length≤40→isTextL out=true→(pureF n l out).length≤40∧isTextL (pureF n l out)=true
 |0,_,out,h,ht=>⟨h,ht⟩
 |n+1,l,out,h,ht=>by
  unfold pureF
  by_cases c:l= []∨37≤out.length
  ·rw[if_pos c];exact⟨h,ht⟩
  rw[if_neg c]
  have hle:=sgnL_le4 l
  have hout:out.length<37:=by
   rcases Nat.lt_or_ge out.length 37 with h|h
   ·exact h
   ·exact absurd (Or.inr h) c
  by_cases c2:sgnL l=0∨oddB (l.getD 0 0)=true
  ·rw[if_pos c2];exact pureF_right n _ _ h ht
  ·rw[if_neg c2]
   exact pureF_right n _ _ (by rw[List.length_append,List.length_take];omega) (isTextL_app _ _ _ (Nat.le_refl _) ht (isTextL_sign c2))
theorem pureL_right (l:List UInt8):(pureL l).length≤40∧isTextL (pureL l)=true:=pureF_right _ _ _ (by decide) rfl
end Go.Proofs.YtmhfioimgllgeaaGreatDoor
