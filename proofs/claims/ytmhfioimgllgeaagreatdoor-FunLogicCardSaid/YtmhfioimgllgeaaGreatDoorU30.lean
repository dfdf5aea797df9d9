/- cmp.Or of three; val.Compare at values that are right, and no functions. -/
import Derived.Test.YtmhfioimgllgeaaGreatDoorU27
import Derived.Test.YtmhfioimgllgeaaGreatDoorU15
import Derived.Test.YtmhfioimgllgeaaGreatDoorU25
namespace Go.Proofs.YtmhfioimgllgeaaGreatDoor
open Go Go.RowKit Go.Shelf
theorem ArrP.nice {x:Vl} {w:World} {B n:Nat} {v:Value} (h:ArrP x) (hx:Rp w B (n+1) x v):NiceV x:=by
 rcases h with h|⟨h5,h⟩
 ·exact .plain h
 ·have hr:=h
  rw[rightV,if_pos h5,Bool.and_eq_true,Bool.and_eq_true,List.all_eq_true]at h
  have e:x=arrV x.rows x.cols x.l:=by
   have hb:=h.2.1
   obtain⟨k,m,e,s,b,err,rows,cols,l,fn,bl,ps⟩:=x
   have h5':k=5:=h5
   subst h5'
   simp only[bareV,Bool.and_eq_true,Bool.or_eq_true,beq_iff_eq,Bool.not_eq_true',List.isEmpty_iff]at hb
   obtain⟨⟨⟨⟨⟨⟨h1,h2⟩,h3⟩,h4⟩,_⟩,_⟩,h7⟩:=hb
   have hs0:s.size=0→s=⟨#[]⟩:=fun h=>by
    obtain⟨⟨l⟩⟩:=s
    cases l with
    |nil=>rfl
    |cons a l=>exact absurd h (by simp[ByteArray.size])
   have a1:=h1.resolve_left (by decide)
   have a2:=hs0 ((h2.resolve_left (by decide)))
   have a3:=h3.resolve_left (by decide)
   have a4:=h4.resolve_left (by decide)
   have a7:=h7.resolve_left (by decide)
   simp[arrV,a1,a2,a3,a4,a7]
  rw[e]
  exact .arr h.2.2
end Go.Proofs.YtmhfioimgllgeaaGreatDoor
