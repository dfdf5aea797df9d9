/- Merged: Rtp, Rtext. -/
import Derived.Test.YtkhohjdakcchdaaGreatDoorBe
import Derived.Test.YtkhohjdakcchdaaGreatDoorRops
import Derived.Laws.BytesString
import Derived.Laws.Cells
namespace Go.Proofs.YtkhohjdakcchdaaGreatDoor
open Go.RowKit Go.Shelf
theorem dg_up (x k:Nat):dg (x*10 ^ 39) (39+k)=dg x k:=by
 rw[←dg_div,Nat.mul_div_cancel _ p39]
theorem lowK_at (D:Nat):∀K,lowK D K<48→dg D (lowK D K)≠0
 |0,h=>absurd h (by rw[lowK];omega)
 |K+1,h=>by
  rw[lowK]at h⊢
  by_cases c:dg D K=0
  ·rw[if_pos c]at h ⊢;exact lowK_at D K h
  ·rw[if_neg c]at h⊢
   by_cases e:lowK D K≤K
   ·rw[Nat.min_eq_left e]at h ⊢;exact lowK_at D K h
   ·rw[Nat.min_eq_right (by omega)];exact c
theorem text_hi {x:Nat} (hx:lenD x≤33):hiOf (x*10 ^ 39)=max (lenD x) 10+38:=by
 obtain⟨h1,h2,h3,h4⟩:=topF_spec (x*10 ^ 39) 96
 unfold hiOf
 by_cases c:x=0
 ·subst c
  have:topF (0*10 ^ 39) 96= -1:=by
   refine Classical.byContradiction fun e=> ?_
   refine h4 (topF (0*10 ^ 39) 96).toNat (by omega) ?_
   rw[Nat.zero_mul];exact dg_zero _
  rw[this,lenD_zero];rfl
 ·have hl:lenD (x*10 ^ 39)=lenD x+39:=lenD_tens c 39
  have hp:0<lenD x:=Nat.pos_of_ne_zero fun e=>c (lenD_eq_zero.1 e)
  generalize hD:x*10 ^ 39=D at*
  generalize topF D 96=t at*
  have ht:t=(lenD x+38:Nat):=by
   rcases Int.lt_trichotomy t (lenD x+38:Nat)with e|e|e
   ·exact absurd (h3 (lenD x+38) (by omega) e) (dg_top (by omega))
   ·exact e
   ·refine absurd (dg_len (n:=D) (k:=t.toNat) (by omega)) (h4 t.toNat (by omega))
  rw[ht];omega
theorem text_low {x F:Nat} (hF:F≤9) (h0:∀i,i<F→dg x i=0) (h1:F=9∨dg x F≠0):lowOf (x*10 ^ 39)=F+39:=by
 have hlo:39≤lowOf (x*10 ^ 39):=lowK_ge _ (fun k hk=>dg_shift_low _ _ _ hk) 48
 have hle:lowOf (x*10 ^ 39)≤48:=lowK_le _ 48
 have hz:=lowK_zero (x*10 ^ 39) 48
 have ha:=lowK_at (x*10 ^ 39) 48
 unfold lowOf at*
 generalize lowK (x*10 ^ 39) 48=q at*
 rcases Nat.lt_trichotomy q (F+39)with e|e|e
 ·refine absurd ?_ (ha (by omega))
  have:=dg_up x (q-39)
  rw[show 39+(q-39)=q by omega]at this
  rw[this];exact h0 _ (by omega)
 ·exact e
 ·rcases h1 with h|h
  ·omega
  ·refine absurd ?_ h
   rw[←dg_up]
   exact hz (39+F) (by omega) (by omega)
theorem text_chunk (x i:Nat):chunk (x*10 ^ 39) (39+i)=(if i=8 then [46]else [])++ [UInt8.ofNat (48+(dg x i).toNat)]:=by
 unfold chunk
 have e:x*10 ^ 39 / 10 ^ (39+i)%10=(dg x i).toNat:=by
  have h:=dg_up x i
  unfold dg at h⊢
  omega
 rw[e]
 congr 1
 by_cases c:i=8
 ·rw[if_pos c,if_pos (by omega)]
 ·rw[if_neg c,if_neg (by omega)]
theorem str_cat (a b:List UInt8):(⟨a.toArray⟩:ByteArray)++(⟨b.toArray⟩:ByteArray)=⟨(a++b).toArray⟩:=by
 apply ByteArray.ext
 rw[ByteArray.data_append]
 simp
theorem str_one (w:World) (g:Nat) (v:Int) (hc:w.cell? ⟨g,0,none⟩=some (.int .u8 v)):(convert 103 9 (.slice (some ⟨g,0,none⟩) 1 1)).run Tryz.prog w= .ok (.string ⟨#[UInt8.ofNat v.toNat]⟩) w:=by
 rw[run_convert_bytes_string w 103 9 5 _ 1 1 Tryz.underlying103 Tryz.underlying5 Tryz.underlying9]
 rw[run_bytesToString w ⟨g,0,none⟩ 1 1 [v]]
 ·rfl
 ·refine run_loadCells_list w ⟨g,0,none⟩ [.int .u8 v] ?_
  intro j u hj
  match j,hj with
  |0,hj=>simp at hj;subst hj;exact hc
end Go.Proofs.YtkhohjdakcchdaaGreatDoor
namespace Go.Proofs.YtkhohjdakcchdaaGreatDoor
open Go.RowKit Go.Shelf
def sliceLen :Value→Nat
 | .slice _ n _=>n
 |_=>0
set_option maxRecDepth 100000 in
set_option maxHeartbeats 4000000 in
theorem rtext_no (M E:Int) (w:World) (h0: -9223372036854775808≤M) (h1:M≤9223372036854775807) (hr:rightB M E=false):
 Calls Tryz.prog 150 #[.agg #[.int .i64 M,.int .i64 E]] w (TextPost ([],10) w):=by
 go_enter Tryz.func150,Tryz.ntmps150
 go_wp2_with fail
 obtain⟨W,hW⟩:∃W,W=w.alloc (.cells #[.int .i64 M,.int .i64 E] 23):=⟨_,rfl⟩
 rw[←hW]
 have d0:World.dec W w.heap.size M E:=by rw[hW];exact World.dec_new w M E _ rfl
 have hB:Below w.heap.size w W:=by rw[hW];exact(Below.refl _ w).alloc (Nat.le_refl _) _
 clear hW
 refine(rright_any M E _ h0 h1).mono ?_
 rintro e wr ⟨rfl,hB1⟩
 have hB:=hB.trans (hB1.mono hB.size)
 have hsz:=hB.size
 clear hB1
 go_wp2_with fail
 refine bodyPost_ret (results_tmp2 rfl _ _ _) rfl ?_
 exact⟨rfl,hB⟩
set_option maxRecDepth 100000 in
set_option maxHeartbeats 8000000 in
theorem rtext_ok (M E:Int) (w:World) (h0: -9223372036854775808≤M) (h1:M≤9223372036854775807) (hr:rightB M E=true):
 Calls Tryz.prog 150 #[.agg #[.int .i64 M,.int .i64 E]] w (TextPost (textR M E,0) w):=by
 obtain⟨r1,r2,r3,r4,_⟩:=rightB_iff.1 hr
 have CX:=fun w=>whole_any M E w h0 h1 r3 r4
 have lx:=wholeN_len (M:=M) (E:=E) (by rw[p15n];omega) r4
 obtain⟨T,hT⟩:∃T,textR M E=T:=⟨_,rfl⟩
 have HT:=Lib.hid hT
 rw[hT]
 clear hT
 have hDx:=layD_whole M r3
 obtain⟨X,hX⟩:∃X,wholeN M E=X:=⟨_,rfl⟩
 rw[hX]at CX lx hDx
 have HDX:=Lib.hid hDx
 have KX:=Lib.hid CX
 have LX:=Lib.hid lx
 clear hX CX lx hDx
 go_enter Tryz.func150,Tryz.ntmps150
 go_wp2_with fail
 obtain⟨W,hW⟩:∃W,W=w.alloc (.cells #[.int .i64 M,.int .i64 E] 23):=⟨_,rfl⟩
 rw[←hW]
 have d0:World.dec W w.heap.size M E:=by rw[hW];exact World.dec_new w M E _ rfl
 have hB:Below w.heap.size w W:=by rw[hW];exact(Below.refl _ w).alloc (Nat.le_refl _) _
 clear hW
 refine(rright_any M E _ h0 h1).mono ?_
 rintro e wr ⟨rfl,hB1⟩
 have d0:=d0.below hB1 d0.lt
 have hB:=hB.trans (hB1.mono hB.size)
 have hsz:=hB.size
 clear hB1
 have a0:=d0.c0
 have a1:=d0.c1
 go_wp2_with fail
 clear a0 a1
 refine(KX.out _).mono ?_
 rintro e w1 ⟨vx,rfl,hx,hB1⟩
 have hx:=hx.mono (show w.heap.size+1≤_ from d0.lt)
 have d0:=d0.below hB1 d0.lt
 have hB:=hB.trans (hB1.mono hB.size)
 have hsz:=hB.size
 clear hB1
 go_wp2_with fail
 go_loopw [4] (fun v wr=>∃L:Nat,World.dr wr (w.heap.size+1) v X L∧Hid (lenD X≤L∧L≤33∧(L=lenD X∨L≤10))∧World.dec wr w.heap.size M E∧Below w.heap.size w wr) (fun v _=>10-sliceLen v)
 case atStart=>exact⟨lenD X,hx,⟨Nat.le_refl _,LX.out,.inl rfl⟩,d0,hB⟩
 case round=>
  clear hx d0 hB hsz
  obtain⟨L,hx,HL,d0,hB⟩:=hrel
  have hsz:=hB.size
  obtain⟨ao,cap,hv⟩:=hx.len
  by_cases c:L≤9
  ·subst hv
   have cI:(L:Int)≤9:=by omega
   have HC:=Lib.hid c
   clear c
   have hd0:dg X L=0:=dg_len HL.out.1
   have HD:=Lib.hid hd0
   clear hd0
   go_wp2_with (at_builtin;refine wpList_push rfl _ _ rfl (w.heap.size+1) _ X L wr.heap.size 0 (hx.alloc _) (by have:=HC.out;omega) rfl rfl (by simp) HD.out.symm (by have:=d0.lt;simp;omega) ?_;intro v' w2 hown hgrow)
   go_roundw
   case rel=>exact⟨L+1,hown,⟨by have:=HL.out;omega,by have:=HL.out;have:=HC.out;omega,.inr (by have:=HC.out;omega)⟩,World.dec.below (d0.alloc _) hgrow (by omega),(hB.alloc hsz _).trans (hgrow.mono (by omega))⟩
   case measure=>
    obtain⟨a2,c2,rfl⟩:=hown.len
    show 10-(L+1)<10-L
    have:=HC.out;omega
  ·subst hv
   have cI:¬(L:Int)≤9:=by omega
   have cI9:(9:Int)<(L:Int):=by omega
   have HL2:Hid (L=max (lenD X) 10∧lenD X≤L∧L≤33):=by
    have:=HL.out
    refine⟨?_,this.1,this.2.1⟩
    omega
   clear c HL
   obtain⟨g,cap',e,hbg,hg,hcp⟩:=hx.some (by omega)
   cases e
   go_wp2_with fail
   go_loopw [5] (fun k wq=>∃F:Nat,k= .int .i64 (F:Int)∧F≤9∧Hid (∀i,i<F→dg X i=0)∧wq=wr) (fun k _=>(9-intOf k).toNat)
   case atStart=>exact⟨0,rfl,by decide,fun i h=>absurd h (by omega),rfl⟩
   case round=>
    obtain⟨F,rfl,hF,HF,rfl⟩:=hrel
    have hcell:9≤F∨wr.cell? ⟨g,F,none⟩=some (.int .i64 (dg X F)):=by
     by_cases h:F<9
     ·exact .inr (hx.cell (by omega))
     ·exact .inl (by omega)
    have b0:=dg_nonneg X F
    have b1:=dg_le X F
    by_cases c9:F<9∧dg X F=0
    ·obtain⟨c9,c0⟩:=c9
     have c9I:(F:Int)<9:=by omega
     have c9L:(F:Int)<(L:Int):=by omega
     have hcell:=hcell.resolve_left (by omega)
     rw[c0]at hcell
     have HC0:=Lib.hid c0
     clear c0 b0 b1
     go_wp2_with fail
     go_roundw
     case rel=>exact⟨F+1,by go_num,by omega,fun i hi=>by
      rcases(by omega:i<F∨i=F)with h|h
      ·exact HF.out i h
      ·rw[h];exact HC0.out,by first|rfl|trivial⟩
     case measure=>first|(simp[intOf];done)|(simp[intOf];omega)
    ·have HLo:Hid (lowOf (X*10 ^ 39)=F+39):=text_low hF HF.out (by omega)
     have HHi:Hid (hiOf (X*10 ^ 39)=L+38):=by show _=_;rw[text_hi LX.out,←HL2.out.1]
     have hsg:signL M=if M<0 then [45]else []:=rfl
     have hFL:F<L:=by omega
     have hFI:(F:Int)<(L:Int):=by omega
     have HFL:=Lib.hid hFL
     have hLb:(L:Int)≤33:=by have:=HL2.out;omega
     have hx0:=hx
     have a0:=d0.c0
     clear hFL
     rcases(by omega:(F=9∧0≤M)∨(F=9∧M<0)∨(F<9∧dg X F≠0∧0≤M)∨(F<9∧dg X F≠0∧M<0))with ⟨c1,c3⟩|⟨c1,c3⟩|⟨c1,c2,c3⟩|⟨c1,c2,c3⟩
     all_goals
      clear c9
      try (have hcell:=hcell.resolve_left (by omega))
      have c1I:(F:Int)≤9:=by omega
      try (have c1J:(F:Int)<9:=by omega)
      try (have c2b:(dg X F==0)=false:=by simpa using c2)
      try rw[if_pos (by omega)]at hsg
      try rw[if_neg (by omega)]at hsg
      have HSG:=Lib.hid hsg
      clear hsg
     ·subst c1
      have hcell0:=hcell
      clear hcell
      go_wp2_with fail
      clear a0 hcell0
      go_loopw [6,7] (fun s i wq=>∃K:Nat,s= .string ⟨(signL M++wrt (X*10 ^ 39) (L+38) (L-K)).toArray⟩∧i= .int .i64 ((K:Int)-1)∧9≤K∧K≤L∧World.dr wq (w.heap.size+1) (.slice (some ⟨g,0,none⟩) L cap) X L∧Below w.heap.size w wq) (fun _ i _=>(intOf i+1).toNat)
      case atStart=>exact⟨L,by rw[HSG.out,Nat.sub_self];rfl,by go_num,by have:=HFL.out;omega,Nat.le_refl _,hx0,hB⟩
      case round=>
       clear hx0 hx hB
       obtain⟨K,rfl,rfl,k0,k1,hx,hB⟩:=hrel
       have hsz:=hB.size
       by_cases c:K=9
       ·obtain rfl:9=K:=c.symm
        have HR:Hid ((⟨(signL M++wrt (X*10 ^ 39) (L+38) (L-9)).toArray⟩:ByteArray)=⟨T.toArray⟩):=by
         show _=_
         rw[←HT.out]
         unfold textR
         rw[HDX.out,HHi.out,HLo.out,show L+38+1-(9+39)=L-9 by omega]
        go_wp2_with fail
        refine bodyPost_ret (results_tmp2 rfl _ _ _) rfl ?_
        exact⟨by rw[HR.out];rfl,hB⟩
       ·obtain⟨k,rfl⟩:∃k,K=k+1:=⟨K-1,by omega⟩
        rw[show ((k+1:Nat):Int)-1=(k:Int) by omega]
        have hkF:(9:Int)≤(k:Int):=by omega
        have hkL:(k:Int)<(L:Int):=by omega
        have hkF2:9≤k:=by omega
        have hcell:=hx.cell (show k<L by omega)
        have hlen:(signL M++wrt (X*10 ^ 39) (L+38) (L-(k+1))).length≤80:=by
         have h1:=wrt_len (X*10 ^ 39) (L+38) (L-(k+1))
         have h2:(signL M).length≤1:=by unfold signL;split<;>simp
         have:=HL2.out
         rw[List.length_append];omega
        have hnext:Hid (signL M++wrt (X*10 ^ 39) (L+38) (L-k)=signL M++wrt (X*10 ^ 39) (L+38) (L-(k+1))++((if k=8 then [46]else [])++ [UInt8.ofNat (48+(dg X k).toNat)])):=by
         show _=_
         rw[show L-k=L-(k+1)+1 by omega,wrt,show L+38-(L-(k+1))=39+k by omega,text_chunk,List.append_assoc]
        obtain⟨S,hS⟩:∃S,signL M++wrt (X*10 ^ 39) (L+38) (L-(k+1))=S:=⟨_,rfl⟩
        rw[hS]at hlen hnext⊢
        clear hS c
        have b0:=dg_nonneg X k
        have b1:=dg_le X k
        obtain⟨d,hd⟩:∃d,dg X k=d:=⟨_,rfl⟩
        rw[hd]at b0 b1 hcell hnext
        clear hd
        have hsz1:(⟨S.toArray⟩:ByteArray).size≤80:=hlen
        obtain⟨B,hB2⟩:∃B,(⟨S.toArray⟩:ByteArray)=B:=⟨_,rfl⟩
        rw[hB2]at hsz1⊢
        have HB2:=Lib.hid hB2
        clear hB2
        have hwu:IntKind.u8.wrap (48+d)=48+d:=by show(48+d)%256=48+d;omega
        have hcat1:B.size+(⟨#[46]⟩:ByteArray).size≤9223372036854775807:=by show B.size+1≤_;omega
        have hcat2:(B++(⟨#[46]⟩:ByteArray)).size+(⟨#[UInt8.ofNat (48+d).toNat]⟩:ByteArray).size≤9223372036854775807:=by rw[ByteArray.size_append];show B.size+1+1≤_;omega
        have hcat3:B.size+(⟨#[UInt8.ofNat (48+d).toNat]⟩:ByteArray).size≤9223372036854775807:=by show B.size+1≤_;omega
        have kc:=str_one (wr.alloc (.cells #[.int .u8 (48+d)] 5)) wr.heap.size (48+d) (by simp)
        by_cases h8:k=8
        ·omega
        ·have h8b:((k:Int)==8)=false:=by rw[beq_eq_false_iff_ne];omega
         go_wp2_with fail
         go_roundw
         case rel=>
          refine⟨k,?_,by go_num,hkF2,by omega,hx.alloc _,hB.alloc hsz _⟩
          have hc:(48+d).toNat=48+d.toNat:=by omega
          rw[hnext.out,if_neg h8,←HB2.out,hc]
          exact congrArg Value.string (str_cat S [UInt8.ofNat (48+d.toNat)])
         case measure=>first|(simp[intOf];done)|(simp[intOf];omega)
     ·subst c1
      have hcell0:=hcell
      clear hcell
      go_wp2_with fail
      clear a0 hcell0
      go_loopw [6,7] (fun s i wq=>∃K:Nat,s= .string ⟨(signL M++wrt (X*10 ^ 39) (L+38) (L-K)).toArray⟩∧i= .int .i64 ((K:Int)-1)∧9≤K∧K≤L∧World.dr wq (w.heap.size+1) (.slice (some ⟨g,0,none⟩) L cap) X L∧Below w.heap.size w wq) (fun _ i _=>(intOf i+1).toNat)
      case atStart=>exact⟨L,by rw[HSG.out,Nat.sub_self];rfl,by go_num,by have:=HFL.out;omega,Nat.le_refl _,hx0,hB⟩
      case round=>
       clear hx0 hx hB
       obtain⟨K,rfl,rfl,k0,k1,hx,hB⟩:=hrel
       have hsz:=hB.size
       by_cases c:K=9
       ·obtain rfl:9=K:=c.symm
        have HR:Hid ((⟨(signL M++wrt (X*10 ^ 39) (L+38) (L-9)).toArray⟩:ByteArray)=⟨T.toArray⟩):=by
         show _=_
         rw[←HT.out]
         unfold textR
         rw[HDX.out,HHi.out,HLo.out,show L+38+1-(9+39)=L-9 by omega]
        go_wp2_with fail
        refine bodyPost_ret (results_tmp2 rfl _ _ _) rfl ?_
        exact⟨by rw[HR.out];rfl,hB⟩
       ·obtain⟨k,rfl⟩:∃k,K=k+1:=⟨K-1,by omega⟩
        rw[show ((k+1:Nat):Int)-1=(k:Int) by omega]
        have hkF:(9:Int)≤(k:Int):=by omega
        have hkL:(k:Int)<(L:Int):=by omega
        have hkF2:9≤k:=by omega
        have hcell:=hx.cell (show k<L by omega)
        have hlen:(signL M++wrt (X*10 ^ 39) (L+38) (L-(k+1))).length≤80:=by
         have h1:=wrt_len (X*10 ^ 39) (L+38) (L-(k+1))
         have h2:(signL M).length≤1:=by unfold signL;split<;>simp
         have:=HL2.out
         rw[List.length_append];omega
        have hnext:Hid (signL M++wrt (X*10 ^ 39) (L+38) (L-k)=signL M++wrt (X*10 ^ 39) (L+38) (L-(k+1))++((if k=8 then [46]else [])++ [UInt8.ofNat (48+(dg X k).toNat)])):=by
         show _=_
         rw[show L-k=L-(k+1)+1 by omega,wrt,show L+38-(L-(k+1))=39+k by omega,text_chunk,List.append_assoc]
        obtain⟨S,hS⟩:∃S,signL M++wrt (X*10 ^ 39) (L+38) (L-(k+1))=S:=⟨_,rfl⟩
        rw[hS]at hlen hnext⊢
        clear hS c
        have b0:=dg_nonneg X k
        have b1:=dg_le X k
        obtain⟨d,hd⟩:∃d,dg X k=d:=⟨_,rfl⟩
        rw[hd]at b0 b1 hcell hnext
        clear hd
        have hsz1:(⟨S.toArray⟩:ByteArray).size≤80:=hlen
        obtain⟨B,hB2⟩:∃B,(⟨S.toArray⟩:ByteArray)=B:=⟨_,rfl⟩
        rw[hB2]at hsz1⊢
        have HB2:=Lib.hid hB2
        clear hB2
        have hwu:IntKind.u8.wrap (48+d)=48+d:=by show(48+d)%256=48+d;omega
        have hcat1:B.size+(⟨#[46]⟩:ByteArray).size≤9223372036854775807:=by show B.size+1≤_;omega
        have hcat2:(B++(⟨#[46]⟩:ByteArray)).size+(⟨#[UInt8.ofNat (48+d).toNat]⟩:ByteArray).size≤9223372036854775807:=by rw[ByteArray.size_append];show B.size+1+1≤_;omega
        have hcat3:B.size+(⟨#[UInt8.ofNat (48+d).toNat]⟩:ByteArray).size≤9223372036854775807:=by show B.size+1≤_;omega
        have kc:=str_one (wr.alloc (.cells #[.int .u8 (48+d)] 5)) wr.heap.size (48+d) (by simp)
        by_cases h8:k=8
        ·omega
        ·have h8b:((k:Int)==8)=false:=by rw[beq_eq_false_iff_ne];omega
         go_wp2_with fail
         go_roundw
         case rel=>
          refine⟨k,?_,by go_num,hkF2,by omega,hx.alloc _,hB.alloc hsz _⟩
          have hc:(48+d).toNat=48+d.toNat:=by omega
          rw[hnext.out,if_neg h8,←HB2.out,hc]
          exact congrArg Value.string (str_cat S [UInt8.ofNat (48+d.toNat)])
         case measure=>first|(simp[intOf];done)|(simp[intOf];omega)
     ·have hcell0:=hcell
      go_wp2_with fail
      clear a0 hcell0 hcell
      go_loopw [6,7] (fun s i wq=>∃K:Nat,s= .string ⟨(signL M++wrt (X*10 ^ 39) (L+38) (L-K)).toArray⟩∧i= .int .i64 ((K:Int)-1)∧F≤K∧K≤L∧World.dr wq (w.heap.size+1) (.slice (some ⟨g,0,none⟩) L cap) X L∧Below w.heap.size w wq) (fun _ i _=>(intOf i+1).toNat)
      case atStart=>exact⟨L,by rw[HSG.out,Nat.sub_self];rfl,by go_num,by have:=HFL.out;omega,Nat.le_refl _,hx0,hB⟩
      case round=>
       clear hx0 hx hB
       obtain⟨K,rfl,rfl,k0,k1,hx,hB⟩:=hrel
       have hsz:=hB.size
       by_cases c:K=F
       ·obtain rfl:F=K:=c.symm
        have HR:Hid ((⟨(signL M++wrt (X*10 ^ 39) (L+38) (L-F)).toArray⟩:ByteArray)=⟨T.toArray⟩):=by
         show _=_
         rw[←HT.out]
         unfold textR
         rw[HDX.out,HHi.out,HLo.out,show L+38+1-(F+39)=L-F by omega]
        go_wp2_with fail
        refine bodyPost_ret (results_tmp2 rfl _ _ _) rfl ?_
        exact⟨by rw[HR.out];rfl,hB⟩
       ·obtain⟨k,rfl⟩:∃k,K=k+1:=⟨K-1,by omega⟩
        rw[show ((k+1:Nat):Int)-1=(k:Int) by omega]
        have hkF:(F:Int)≤(k:Int):=by omega
        have hkL:(k:Int)<(L:Int):=by omega
        have hkF2:F≤k:=by omega
        have hcell:=hx.cell (show k<L by omega)
        have hlen:(signL M++wrt (X*10 ^ 39) (L+38) (L-(k+1))).length≤80:=by
         have h1:=wrt_len (X*10 ^ 39) (L+38) (L-(k+1))
         have h2:(signL M).length≤1:=by unfold signL;split<;>simp
         have:=HL2.out
         rw[List.length_append];omega
        have hnext:Hid (signL M++wrt (X*10 ^ 39) (L+38) (L-k)=signL M++wrt (X*10 ^ 39) (L+38) (L-(k+1))++((if k=8 then [46]else [])++ [UInt8.ofNat (48+(dg X k).toNat)])):=by
         show _=_
         rw[show L-k=L-(k+1)+1 by omega,wrt,show L+38-(L-(k+1))=39+k by omega,text_chunk,List.append_assoc]
        obtain⟨S,hS⟩:∃S,signL M++wrt (X*10 ^ 39) (L+38) (L-(k+1))=S:=⟨_,rfl⟩
        rw[hS]at hlen hnext⊢
        clear hS c
        have b0:=dg_nonneg X k
        have b1:=dg_le X k
        obtain⟨d,hd⟩:∃d,dg X k=d:=⟨_,rfl⟩
        rw[hd]at b0 b1 hcell hnext
        clear hd
        have hsz1:(⟨S.toArray⟩:ByteArray).size≤80:=hlen
        obtain⟨B,hB2⟩:∃B,(⟨S.toArray⟩:ByteArray)=B:=⟨_,rfl⟩
        rw[hB2]at hsz1⊢
        have HB2:=Lib.hid hB2
        clear hB2
        have hwu:IntKind.u8.wrap (48+d)=48+d:=by show(48+d)%256=48+d;omega
        have hcat1:B.size+(⟨#[46]⟩:ByteArray).size≤9223372036854775807:=by show B.size+1≤_;omega
        have hcat2:(B++(⟨#[46]⟩:ByteArray)).size+(⟨#[UInt8.ofNat (48+d).toNat]⟩:ByteArray).size≤9223372036854775807:=by rw[ByteArray.size_append];show B.size+1+1≤_;omega
        have hcat3:B.size+(⟨#[UInt8.ofNat (48+d).toNat]⟩:ByteArray).size≤9223372036854775807:=by show B.size+1≤_;omega
        have kc:=str_one (wr.alloc (.cells #[.int .u8 (48+d)] 5)) wr.heap.size (48+d) (by simp)
        by_cases h8:k=8
        ·subst h8
         go_wp2_with fail
         go_roundw
         case rel=>
          refine⟨8,?_,by go_num,hkF2,by omega,hx.alloc _,hB.alloc hsz _⟩
          have hc:(48+d).toNat=48+d.toNat:=by omega
          rw[hnext.out,if_pos rfl,←HB2.out,hc]
          exact congrArg Value.string ((congrArg (· ++(⟨#[UInt8.ofNat (48+d.toNat)]⟩:ByteArray)) (str_cat S [46])).trans ((str_cat (S++ [46]) [UInt8.ofNat (48+d.toNat)]).trans (by rw[List.append_assoc])))
         case measure=>first|(simp[intOf];done)|(simp[intOf];omega)
        ·have h8b:((k:Int)==8)=false:=by rw[beq_eq_false_iff_ne];omega
         go_wp2_with fail
         go_roundw
         case rel=>
          refine⟨k,?_,by go_num,hkF2,by omega,hx.alloc _,hB.alloc hsz _⟩
          have hc:(48+d).toNat=48+d.toNat:=by omega
          rw[hnext.out,if_neg h8,←HB2.out,hc]
          exact congrArg Value.string (str_cat S [UInt8.ofNat (48+d.toNat)])
         case measure=>first|(simp[intOf];done)|(simp[intOf];omega)
     ·have hcell0:=hcell
      go_wp2_with fail
      clear a0 hcell0 hcell
      go_loopw [6,7] (fun s i wq=>∃K:Nat,s= .string ⟨(signL M++wrt (X*10 ^ 39) (L+38) (L-K)).toArray⟩∧i= .int .i64 ((K:Int)-1)∧F≤K∧K≤L∧World.dr wq (w.heap.size+1) (.slice (some ⟨g,0,none⟩) L cap) X L∧Below w.heap.size w wq) (fun _ i _=>(intOf i+1).toNat)
      case atStart=>exact⟨L,by rw[HSG.out,Nat.sub_self];rfl,by go_num,by have:=HFL.out;omega,Nat.le_refl _,hx0,hB⟩
      case round=>
       clear hx0 hx hB
       obtain⟨K,rfl,rfl,k0,k1,hx,hB⟩:=hrel
       have hsz:=hB.size
       by_cases c:K=F
       ·obtain rfl:F=K:=c.symm
        have HR:Hid ((⟨(signL M++wrt (X*10 ^ 39) (L+38) (L-F)).toArray⟩:ByteArray)=⟨T.toArray⟩):=by
         show _=_
         rw[←HT.out]
         unfold textR
         rw[HDX.out,HHi.out,HLo.out,show L+38+1-(F+39)=L-F by omega]
        go_wp2_with fail
        refine bodyPost_ret (results_tmp2 rfl _ _ _) rfl ?_
        exact⟨by rw[HR.out];rfl,hB⟩
       ·obtain⟨k,rfl⟩:∃k,K=k+1:=⟨K-1,by omega⟩
        rw[show ((k+1:Nat):Int)-1=(k:Int) by omega]
        have hkF:(F:Int)≤(k:Int):=by omega
        have hkL:(k:Int)<(L:Int):=by omega
        have hkF2:F≤k:=by omega
        have hcell:=hx.cell (show k<L by omega)
        have hlen:(signL M++wrt (X*10 ^ 39) (L+38) (L-(k+1))).length≤80:=by
         have h1:=wrt_len (X*10 ^ 39) (L+38) (L-(k+1))
         have h2:(signL M).length≤1:=by unfold signL;split<;>simp
         have:=HL2.out
         rw[List.length_append];omega
        have hnext:Hid (signL M++wrt (X*10 ^ 39) (L+38) (L-k)=signL M++wrt (X*10 ^ 39) (L+38) (L-(k+1))++((if k=8 then [46]else [])++ [UInt8.ofNat (48+(dg X k).toNat)])):=by
         show _=_
         rw[show L-k=L-(k+1)+1 by omega,wrt,show L+38-(L-(k+1))=39+k by omega,text_chunk,List.append_assoc]
        obtain⟨S,hS⟩:∃S,signL M++wrt (X*10 ^ 39) (L+38) (L-(k+1))=S:=⟨_,rfl⟩
        rw[hS]at hlen hnext⊢
        clear hS c
        have b0:=dg_nonneg X k
        have b1:=dg_le X k
        obtain⟨d,hd⟩:∃d,dg X k=d:=⟨_,rfl⟩
        rw[hd]at b0 b1 hcell hnext
        clear hd
        have hsz1:(⟨S.toArray⟩:ByteArray).size≤80:=hlen
        obtain⟨B,hB2⟩:∃B,(⟨S.toArray⟩:ByteArray)=B:=⟨_,rfl⟩
        rw[hB2]at hsz1⊢
        have HB2:=Lib.hid hB2
        clear hB2
        have hwu:IntKind.u8.wrap (48+d)=48+d:=by show(48+d)%256=48+d;omega
        have hcat1:B.size+(⟨#[46]⟩:ByteArray).size≤9223372036854775807:=by show B.size+1≤_;omega
        have hcat2:(B++(⟨#[46]⟩:ByteArray)).size+(⟨#[UInt8.ofNat (48+d).toNat]⟩:ByteArray).size≤9223372036854775807:=by rw[ByteArray.size_append];show B.size+1+1≤_;omega
        have hcat3:B.size+(⟨#[UInt8.ofNat (48+d).toNat]⟩:ByteArray).size≤9223372036854775807:=by show B.size+1≤_;omega
        have kc:=str_one (wr.alloc (.cells #[.int .u8 (48+d)] 5)) wr.heap.size (48+d) (by simp)
        by_cases h8:k=8
        ·subst h8
         go_wp2_with fail
         go_roundw
         case rel=>
          refine⟨8,?_,by go_num,hkF2,by omega,hx.alloc _,hB.alloc hsz _⟩
          have hc:(48+d).toNat=48+d.toNat:=by omega
          rw[hnext.out,if_pos rfl,←HB2.out,hc]
          exact congrArg Value.string ((congrArg (· ++(⟨#[UInt8.ofNat (48+d.toNat)]⟩:ByteArray)) (str_cat S [46])).trans ((str_cat (S++ [46]) [UInt8.ofNat (48+d.toNat)]).trans (by rw[List.append_assoc])))
         case measure=>first|(simp[intOf];done)|(simp[intOf];omega)
        ·have h8b:((k:Int)==8)=false:=by rw[beq_eq_false_iff_ne];omega
         go_wp2_with fail
         go_roundw
         case rel=>
          refine⟨k,?_,by go_num,hkF2,by omega,hx.alloc _,hB.alloc hsz _⟩
          have hc:(48+d).toNat=48+d.toNat:=by omega
          rw[hnext.out,if_neg h8,←HB2.out,hc]
          exact congrArg Value.string (str_cat S [UInt8.ofNat (48+d.toNat)])
         case measure=>first|(simp[intOf];done)|(simp[intOf];omega)
theorem rtext_any (M E:Int) (w:World) (h0: -9223372036854775808≤M) (h1:M≤9223372036854775807):
 Calls Tryz.prog 150 #[.agg #[.int .i64 M,.int .i64 E]] w (TextPost (textD M E) w):=by
 unfold textD
 by_cases hr:rightB M E=true
 ·rw[if_pos hr];exact rtext_ok M E w h0 h1 hr
 ·rw[if_neg hr];exact rtext_no M E w h0 h1 (by simpa using hr)
end Go.Proofs.YtkhohjdakcchdaaGreatDoor
