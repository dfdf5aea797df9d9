/- tabularef03.Name, Read. (By genRrv.py.) -/
import Derived.Test.YtkhohjdakcchdaaGreatDoorBx
import Derived.Test.YtkhohjdakcchdaaGreatDoorRrd
namespace Go.Proofs.YtkhohjdakcchdaaGreatDoor
open Go Go.RowKit Go.Shelf
theorem ret_s {a b:ByteArray} (h:a=b):Ending.returned (.string a)= .returned (.string b):=by rw[h]
set_option maxHeartbeats 2000000 in
theorem rname_any (n:Nat) (w:World) (h1:1≤n) (h9:n≤9):Calls Tryz.prog 55 #[.int .i64 (n:Int)] w (fun e w'=>e= .returned (.string (mk (errL n)))∧w'=w):=by
 rcases(by omega:n=1∨n=2∨n=3∨n=4∨n=5∨n=6∨n=7∨n=8∨n=9)with rfl|rfl|rfl|rfl|rfl|rfl|rfl|rfl|rfl
 all_goals
  go_enter Tryz.func55,Tryz.ntmps55
  go_wp2_with fail
  go_ret
  exact⟨ret_s (by rfl),rfl⟩
theorem trim_yes (s:ByteArray) (h0:0<s.size) (h:(s[0]'h0).toNat=39):mk (Lib.trimPrefix s.data.toList [39])=s.extract 1 s.size:=by
 have e:=drop_ext s 1
 have h2:s.data.toList=39 :: s.data.toList.drop 1:=by
  obtain⟨⟨l⟩⟩:=s
  cases l with
  |nil=>exact absurd h0 (by decide)
  |cons c r=>
   have:c=39:=UInt8.toNat_inj.1 h
   subst this;rfl
 have h3:Lib.trimPrefix s.data.toList [39]=s.data.toList.drop 1:=by
  rw[h2];rfl
 rw[h3,←e]
 rfl
theorem trim_no (s:ByteArray) (h0:0<s.size) (h:¬(s[0]'h0).toNat=39):mk (Lib.trimPrefix s.data.toList [39])=s:=by
 obtain⟨⟨l⟩⟩:=s
 cases l with
 |nil=>rfl
 |cons c r=>
  have hc:¬c=39:=fun e=>h (by subst e;rfl)
  have h3:Lib.trimPrefix (c :: r) [39]=c :: r:=by
   unfold Lib.trimPrefix
   rw[if_neg]
   intro e
   apply hc
   simp[Lib.hasPrefix]at e
   exact e.symm
  show mk (Lib.trimPrefix (c :: r) [39])=_
  rw[h3];rfl
set_option maxRecDepth 100000 in
set_option maxHeartbeats 4000000 in
theorem rread_nil (w:World):Calls Tryz.prog 18 #[.string ⟨#[]⟩] w (ReadPost ({},0) w):=by
 go_enter Tryz.func18,Tryz.ntmps18
 go_wp2_with (first|refine wpList_alloc34 rfl rfl ?_|refine wpList_build_zero rfl rfl ?_|(refine wpList_store34 rfl rfl rfl rfl (World.vb_new w vz) (by rfl) (pcs_one _) ?_;intro w9 hn9 hg9 hz9))
 refine bodyPost_ret (results_vl_tmp rfl _ _ _ _ rfl hn9 (by rfl)) rfl ?_
 exact⟨rfl,((Below.refl _ w).alloc (Nat.le_refl _) _).grown hg9 (by simp) (fun k9 hk9=>by cases hk9;simp)⟩
set_option maxRecDepth 100000 in
set_option maxHeartbeats 4000000 in
theorem rread_form (s:ByteArray) (w:World) (h0:0<s.size) (hc:(s[0]'h0).toNat=61):Calls Tryz.prog 18 #[.string s] w (ReadPost ({},30) w):=by
 have hsz:((s.size:Int)==0)=false:=by rw[beq_eq_false_iff_ne];omega
 have hcI:(((s[0]'h0).toNat:Int)==61)=true:=by rw[beq_iff_eq];omega
 have hl0:(0:Int)<(s.size:Int):=by omega
 clear hc
 go_enter Tryz.func18,Tryz.ntmps18
 go_wp2_with (first|refine wpList_alloc34 rfl rfl ?_|refine wpList_build_zero rfl rfl ?_|(refine wpList_store34 rfl rfl rfl rfl (World.vb_new w vz) (by rfl) (pcs_one _) ?_;intro w9 hn9 hg9 hz9))
 refine bodyPost_ret (results_vl_tmp rfl _ _ _ _ rfl hn9 (by rfl)) rfl ?_
 exact⟨rfl,((Below.refl _ w).alloc (Nat.le_refl _) _).grown hg9 (by simp) (fun k9 hk9=>by cases hk9;simp)⟩
set_option maxRecDepth 100000 in
set_option maxHeartbeats 8000000 in
theorem rread_more (s:ByteArray) (w:World) (hs:s.size≤4294967000) (h0:0<s.size) (hc:¬(s[0]'h0).toNat=61):
 Calls Tryz.prog 18 #[.string s] w (ReadPost (readV s.data.toList) w):=by
 have hsz:((s.size:Int)==0)=false:=by rw[beq_eq_false_iff_ne];omega
 have hl0:(0:Int)<(s.size:Int):=by omega
 have hcI:(((s[0]'h0).toNat:Int)==61)=false:=by rw[beq_eq_false_iff_ne];omega
 have hne:=list_full h0
 have hRV:readV s.data.toList=if(readD s.data.toList).2=0 then(numV (readD s.data.toList).1,(0:Int))else readT1 (truthL s.data.toList) (errF s.data.toList) (txtOk (mk (Lib.trimPrefix s.data.toList [39]))) (mk (Lib.trimPrefix s.data.toList [39])):=by
  unfold readV
  rw[if_neg (by intro e;rw[ByteArray.toList_eq,e]at hne;cases hne),if_neg (by
   intro e
   apply hc
   cases hl:s.data.toList with
   |nil=>rw[hl]at e;cases e
   |cons c r=>
    rw[hl]at e
    injection e with e
    have:s[0]'h0=c:=by
     show s.data[0]=c
     rw[←Array.getElem_toList]
     simp only[hl,List.getElem_cons_zero]
    rw[this,e];rfl)]
  rfl
 clear hne
 obtain⟨x,y,er,hr⟩:=three (readD s.data.toList)
 have HR:=Lib.hid (show ∀W,Calls Tryz.prog 53 #[.string s] W (DecPost ((x,y),er) W)from fun W=>by rw[←hr];exact rread_any s W (by omega))
 have HF:=Lib.hid (show ∀W,Calls Tryz.prog 54 #[.string s] W (Gives (.string (foldS s)) W)from fun W=>rfold_any s W (by omega))
 have HE:=Lib.hid (show(∀K,K<9→(∀i,i<K→¬lowL (errL (i+1))=lowL s.data.toList)→lowL (errL (K+1))=lowL s.data.toList→errF s.data.toList=some (K+1))∧((∀i,i<9→¬lowL (errL (i+1))=lowL s.data.toList)→errF s.data.toList=none)from⟨fun K h1 h2 h3=>errF_hit h1 h2 h3,errF_miss⟩)
 rw[hr]at hRV
 have HRV:=Lib.hid hRV
 obtain⟨V,hV⟩:∃V,readV s.data.toList=V:=⟨_,rfl⟩
 rw[hV]at HRV⊢
 obtain⟨ef,hef⟩:∃ef,errF s.data.toList=ef:=⟨_,rfl⟩
 rw[hef]at HE HRV
 obtain⟨T,hTe⟩:∃T,mk (Lib.trimPrefix s.data.toList [39])=T:=⟨_,rfl⟩
 have hTs:T.size≤4294967000:=by
  rw[←hTe,mk_size]
  have:(Lib.trimPrefix s.data.toList [39]).length≤s.data.toList.length:=by
   unfold Lib.trimPrefix
   split
   ·rw[List.length_drop];omega
   ·exact Nat.le_refl _
  rw[←Lib.size_eq]at this
  omega
 have HX:=Lib.hid (show ∀W,Calls Tryz.prog 57 #[.string T] W (fun e w'=>e= .returned (.bool (txtOk T))∧w'=W)from fun W=>rtextok_any T W (by omega))
 have HTE:Hid (if(s[0]'h0).toNat=39 then T=s.extract 1 s.size else T=s):=Lib.hid (by
  rw[←hTe]
  split
  ·rename_i h;exact trim_yes s h0 h
  ·rename_i h;exact trim_no s h0 h)
 rw[hTe]at HRV
 obtain⟨tb,htb⟩:∃tb,txtOk T=tb:=⟨_,rfl⟩
 rw[htb]at HX HRV
 have HL:=Lib.hid (foldS_list s)
 have HTL:=Lib.hid (show truthL s.data.toList=if lowL s.data.toList=trueL then some true else if lowL s.data.toList=falseL then some false else none from rfl)
 clear hRV hr hc hV hef hTe htb hs hTs
 go_enter Tryz.func18,Tryz.ntmps18
 go_wp2_with (refine wpList_alloc34 rfl rfl ?_)
 obtain⟨W,hW⟩:∃W,W=w.alloc (.cells vz 34):=⟨_,rfl⟩
 rw[←hW]
 have hvy:World.vb W w.heap.size vz:=by rw[hW];exact World.vb_new _ _
 have hB:Below w.heap.size w W:=by rw[hW];exact(Below.refl _ w).alloc (Nat.le_refl _) _
 clear hW
 refine(HR.out _).mono ?_
 rintro e2 w2 ⟨rfl,hB2⟩
 have hvy:=hvy.below hB2 hvy.lt
 have hB:=hB.trans (hB2.mono hB.size)
 clear hB2
 have hz2:=hvy.lt
 have hvz:=hvy.alloc (.cells #[.int .i64 x,.int .i64 y] 23)
 have hBz:=hB.alloc hB.size (.cells #[.int .i64 x,.int .i64 y] 23)
 by_cases he:er=0
 ·subst he
  have HX:Hid (V=(numV (x,y),0)):=by show _=_;rw[HRV.out,if_pos rfl]
  go_wp2_with (first|refine wpList_build_num rfl rfl (by rfl) ?_|(refine wpList_store34 rfl rfl rfl rfl hvz (by rfl) (pcs_one _) ?_;intro w9 hn9 hg9 hz9))
  refine bodyPost_ret (results_vl_tmp rfl _ _ _ _ rfl hn9 (by rfl)) rfl ?_
  exact⟨by rw[HX.out];rfl,hBz.grown hg9 hBz.size (fun k9 hk9=>by cases hk9;omega)⟩
 have HRV:Hid (V=readT1 (truthL s.data.toList) ef tb T):=by show _=_;rw[HRV.out,if_neg he]
 have he2:(er==0)=false:=by simpa using he
 clear he
 go_wp2_with fail
 obtain⟨W3,hW3⟩:∃W3,W3=w2.alloc (.cells #[.int .i64 x,.int .i64 y] 23):=⟨_,rfl⟩
 rw[←hW3]at hvz hBz⊢
 clear hW3 he2 hvy hB hz2
 have hvy:=hvz
 have hB:=hBz
 clear hvz hBz
 refine(HF.out _).mono ?_
 rintro e4 w4 ⟨rfl,hB4⟩
 have hvy:=hvy.below hB4 hvy.lt
 have hB:=hB.trans (hB4.mono hB.size)
 clear hB4
 by_cases htrue:lowL s.data.toList=trueL
 ·have HX:Hid (V=(trV true,0)):=by
   have:truthL s.data.toList=some true:=by rw[HTL.out,if_pos htrue]
   show _=_
   rw[HRV.out,this];rfl
  have e1:(foldS s).toList= [116,114,117,101]:=by rw[HL.out,htrue];rfl
  clear htrue
  go_wp2_with (first|refine wpList_build_tr (b:=true) rfl rfl (by rfl) ?_|(refine wpList_store34 rfl rfl rfl rfl hvy (by rfl) (pcs_one _) ?_;intro w9 hn9 hg9 hz9))
  refine bodyPost_ret (results_vl_tmp rfl _ _ _ _ rfl hn9 (by rfl)) rfl ?_
  exact⟨by rw[HX.out];rfl,hB.grown hg9 hB.size (fun k9 hk9=>by cases hk9;omega)⟩
 by_cases hfalse:lowL s.data.toList=falseL
 ·have HX:Hid (V=(trV false,0)):=by
   have:truthL s.data.toList=some false:=by rw[HTL.out,if_neg htrue,if_pos hfalse]
   show _=_
   rw[HRV.out,this];rfl
  have e1:(foldS s).toList= [102,97,108,115,101]:=by rw[HL.out,hfalse];rfl
  clear hfalse htrue
  go_wp2_with (first|refine wpList_build_tr (b:=false) rfl rfl (by rfl) ?_|(refine wpList_store34 rfl rfl rfl rfl hvy (by rfl) (pcs_one _) ?_;intro w9 hn9 hg9 hz9))
  refine bodyPost_ret (results_vl_tmp rfl _ _ _ _ rfl hn9 (by rfl)) rfl ?_
  exact⟨by rw[HX.out];rfl,hB.grown hg9 hB.size (fun k9 hk9=>by cases hk9;omega)⟩
 have e1:¬(foldS s).toList= [116,114,117,101]:=by rw[HL.out];exact htrue
 have e2:¬(foldS s).toList= [102,97,108,115,101]:=by rw[HL.out];exact hfalse
 have e3:((foldS s).toList== [116,114,117,101])=false:=beq_eq_false_iff_ne.2 e1
 have e4:((foldS s).toList== [102,97,108,115,101])=false:=beq_eq_false_iff_ne.2 e2
 have HRV:Hid (V=readT2 ef tb T):=by
  have:truthL s.data.toList=none:=by rw[HTL.out,if_neg htrue,if_neg hfalse]
  show _=_
  rw[HRV.out,this];rfl
 clear htrue hfalse
 go_wp2_with fail
 go_loopw [7] (fun i wr=>∃K:Nat,K≤9∧i= .int .i64 ((K:Int)+1)∧World.vb wr w.heap.size vz∧Below w.heap.size w wr∧Hid (∀i:Nat,i<K→¬lowL (errL (i+1))=lowL s.data.toList)) (fun i _=>11-(intOf i).toNat)
 case atStart=>exact⟨0,Nat.zero_le _,rfl,hvy,hB,Lib.hid fun i h=>by omega⟩
 case round=>
  clear hvy hB
  obtain⟨K,hK,rfl,hvy,hB,HK⟩:=hrel
  by_cases hlt:K<9
  ·have hKI:(K:Int)+1≤9:=by omega
   have HNM:=Lib.hid (show ∀W,Calls Tryz.prog 55 #[.int .i64 ((K:Int)+1)] W (fun e w'=>e= .returned (.string (mk (errL (K+1))))∧w'=W)from fun W=>rname_any (K+1) W (by omega) (by omega))
   have HF2:=Lib.hid (show ∀W,Calls Tryz.prog 54 #[.string (mk (errL (K+1)))] W (Gives (.string (foldS (mk (errL (K+1))))) W)from fun W=>rfold_any _ W (by
    have:∀n,(errL n).length≤10:=by
     intro n
     unfold errL
     split<;>decide
    have:=this (K+1)
    rw[mk_size];omega))
   have HFE:=Lib.hid (show lowL (errL (K+1))=lowL s.data.toList→(foldS (mk (errL (K+1)))).toList=(foldS s).toList from fun h=>fold_eq h)
   have HFN:=Lib.hid (show ¬lowL (errL (K+1))=lowL s.data.toList→((foldS s).toList==(foldS (mk (errL (K+1)))).toList)=false from fun h=>fold_ne fun e=>h e.symm)
   obtain⟨S,hS⟩:∃S,mk (errL (K+1))=S:=⟨_,rfl⟩
   rw[hS]at HNM HF2 HFE HFN
   clear hS
   have hKs:K+1≤9:=hlt
   by_cases hq:lowL (errL (K+1))=lowL s.data.toList
   ·have hfe:=(HFE.out hq).symm
    have hef:=HE.out.1 K hlt HK.out hq
    subst hef
    have HX:Hid (V=(errV ((K:Int)+1),0)):=HRV.out
    clear hq HFE HFN
    go_wp2_with fail
    refine(HNM.out _).mono ?_
    rintro e5 w5 ⟨rfl,rfl⟩
    go_wp2_with fail
    refine(HF2.out _).mono ?_
    rintro e6 w6 ⟨rfl,hB6⟩
    have hvy:=hvy.below hB6 hvy.lt
    have hB:=hB.trans (hB6.mono hB.size)
    clear hB6
    go_wp2_with fail
    refine(rerr_any _ _).mono ?_
    rintro e8 w8 ⟨rfl,hB8⟩
    have hvy:=hvy.below hB8 hvy.lt
    have hB:=hB.trans (hB8.mono hB.size)
    clear hB8
    go_wp2_with (refine wpList_store34 rfl rfl rfl rfl hvy (by rfl) (pcs_one _) ?_;intro w9 hn9 hg9 hz9)
    refine bodyPost_ret (results_vl_tmp rfl _ _ _ _ rfl hn9 (by rfl)) rfl ?_
    exact⟨by rw[HX.out];rfl,hB.grown hg9 hB.size (fun k9 hk9=>by cases hk9;omega)⟩
   ·have hfn:=HFN.out hq
    have HK':Hid (∀i:Nat,i<K+1→¬lowL (errL (i+1))=lowL s.data.toList):=Lib.hid fun i hi=>by
     by_cases e:i=K
     ·subst e;exact hq
     ·exact HK.out i (by omega)
    clear hq HFE HFN
    go_wp2_with fail
    refine(HNM.out _).mono ?_
    rintro e5 w5 ⟨rfl,rfl⟩
    go_wp2_with fail
    refine(HF2.out _).mono ?_
    rintro e6 w6 ⟨rfl,hB6⟩
    have hvy:=hvy.below hB6 hvy.lt
    have hB:=hB.trans (hB6.mono hB.size)
    clear hB6
    go_wp2_with fail
    go_roundw
    case rel=>exact⟨K+1,by omega,by go_num,hvy,hB,HK'⟩
    case measure=>simp[intOf];omega
  ·obtain rfl:K=9:=by omega
   have hef:=HE.out.2 HK.out
   subst hef
   have HRW:Hid (V=readT3 tb T):=HRV.out
   clear HRV
   by_cases h39:(s[0]'h0).toNat=39
   ·have hTE:=HTE.out
    rw[if_pos h39]at hTE
    subst hTE
    have h39I:(((s[0]'h0).toNat:Int)==39)=true:=by rw[beq_iff_eq];omega
    have hs1:(1:Int)≤(s.size:Int):=by omega
    clear h39
    clear HTE
    go_wp2_with fail
    refine(HX.out _).mono ?_
    rintro e7 w7 ⟨rfl,rfl⟩
    cases tb with
    |true=>
     have HX:Hid (V=(txtV (s.extract 1 s.size),0)):=HRW.out
     go_wp2_with (first|refine wpList_build_txt rfl rfl (by rfl) ?_|(refine wpList_store34 rfl rfl rfl rfl hvy (by rfl) (pcs_one _) ?_;intro w9 hn9 hg9 hz9))
     refine bodyPost_ret (results_vl_tmp rfl _ _ _ _ rfl hn9 (by rfl)) rfl ?_
     exact⟨by rw[HX.out];rfl,hB.grown hg9 hB.size (fun k9 hk9=>by cases hk9;omega)⟩
    |false=>
     have HX:Hid (V=({},30)):=HRW.out
     go_wp2_with (first|refine wpList_build_zero rfl rfl ?_|(refine wpList_store34 rfl rfl rfl rfl hvy (by rfl) (pcs_one _) ?_;intro w9 hn9 hg9 hz9))
     refine bodyPost_ret (results_vl_tmp rfl _ _ _ _ rfl hn9 (by rfl)) rfl ?_
     exact⟨by rw[HX.out];rfl,hB.grown hg9 hB.size (fun k9 hk9=>by cases hk9;omega)⟩
   ·have hTE:=HTE.out
    rw[if_neg h39]at hTE
    subst hTE
    have h39I:(((T[0]'h0).toNat:Int)==39)=false:=by rw[beq_eq_false_iff_ne];omega
    clear h39
    clear HTE
    go_wp2_with fail
    refine(HX.out _).mono ?_
    rintro e7 w7 ⟨rfl,rfl⟩
    cases tb with
    |true=>
     have HX:Hid (V=(txtV (T),0)):=HRW.out
     go_wp2_with (first|refine wpList_build_txt rfl rfl (by rfl) ?_|(refine wpList_store34 rfl rfl rfl rfl hvy (by rfl) (pcs_one _) ?_;intro w9 hn9 hg9 hz9))
     refine bodyPost_ret (results_vl_tmp rfl _ _ _ _ rfl hn9 (by rfl)) rfl ?_
     exact⟨by rw[HX.out];rfl,hB.grown hg9 hB.size (fun k9 hk9=>by cases hk9;omega)⟩
    |false=>
     have HX:Hid (V=({},30)):=HRW.out
     go_wp2_with (first|refine wpList_build_zero rfl rfl ?_|(refine wpList_store34 rfl rfl rfl rfl hvy (by rfl) (pcs_one _) ?_;intro w9 hn9 hg9 hz9))
     refine bodyPost_ret (results_vl_tmp rfl _ _ _ _ rfl hn9 (by rfl)) rfl ?_
     exact⟨by rw[HX.out];rfl,hB.grown hg9 hB.size (fun k9 hk9=>by cases hk9;omega)⟩
/-- What any text says, by the document. -/
theorem rvread_any (s:ByteArray) (w:World) (hs:s.size≤4294967000):Calls Tryz.prog 18 #[.string s] w (ReadPost (readV s.data.toList) w):=by
 by_cases h0:0<s.size
 ·by_cases hc:(s[0]'h0).toNat=61
  ·have:readV s.data.toList=({},30):=by
    obtain⟨⟨l⟩⟩:=s
    cases l with
    |nil=>exact absurd h0 (by decide)
    |cons c r=>
     have e:c=61:=UInt8.toNat_inj.1 hc
     subst e;rfl
   rw[this]
   exact rread_form s w h0 hc
  ·exact rread_more s w hs h0 hc
 ·have:s=⟨#[]⟩:=by
   obtain⟨⟨l⟩⟩:=s
   cases l with
   |nil=>rfl
   |cons a l=>exact absurd h0 (by simp[ByteArray.size])
  subst this
  exact rread_nil w
end Go.Proofs.YtkhohjdakcchdaaGreatDoor
