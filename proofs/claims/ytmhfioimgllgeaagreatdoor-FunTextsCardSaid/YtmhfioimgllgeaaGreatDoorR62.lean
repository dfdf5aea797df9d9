/- The law FunTexts, walked. (By gentxw.py.) -/
import Derived.Test.YtmhfioimgllgeaaGreatDoorR01
import Derived.Test.YtmhfioimgllgeaaGreatDoorR61
import Derived.Test.YtmhfioimgllgeaaGreatDoorR55
import Derived.Test.YtmhfioimgllgeaaGreatDoorR56
import Derived.Test.YtmhfioimgllgeaaGreatDoorR18
namespace Go.Proofs.YtmhfioimgllgeaaGreatDoor
open Go Go.RowKit Go.Shelf Go.Lib
theorem wpList_bsl1 {ops:Array Oper} {rest:List Oper} {o:Oper} {a:Act} {w:World} {Q:Exit→Act→World→Prop} {p:Operand} {x:Vl} (hgd:o.guard=none) (ho:o.op= .buildSlice 31 1 #[(0,p)]) (hx:a.eval p= .agg (pcs x)) (h:wpList Tryz.prog ops Q rest (a.put o.dst (.slice (some ⟨w.heap.size,0,none⟩) 1 1)) (w.alloc (.cells (vsC [x]).toArray 39))):wpList Tryz.prog ops Q (o :: rest) a w:=
 wpList_plain hgd fun _ hK=>op_bsl1 ho hx (hK _ _ h)
theorem vb_dat {w:World} {g:Nat} {m e:Int} (h:World.vb w g (pcs (numV (m,e)))):∀(j:Nat) (u:Value),(#[.int .i64 m,.int .i64 e]:Array Value)[j]? =some u→w.cell? ⟨g,1+j,none⟩=some u:=by
 intro j u hj
 match j,hj with
 |0,hj=>rw[←hj];exact h.cell rfl
 |1,hj=>rw[←hj];exact h.cell rfl
 |j+2,hj=>simp at hj
theorem pure_ok (s:ByteArray):txtOk (pureS s)=true∧(pureS s).size≤40:=by
 have h:=pureL_right s.data.toList
 have e:(pureS s).data.toList=pureL s.data.toList:=by unfold pureS;rw[mk_data]
 have hz:(pureS s).size≤40:=by rw[Lib.size_eq,e];exact h.1
 refine⟨?_,hz⟩
 unfold txtOk
 rw[Bool.and_eq_true,decide_eq_true_iff]
 exact⟨by omega,by rw[e];exact h.2⟩
theorem yields_eqs {a:Act} {o:Oper} {w:World} {x y:Operand} {A B:ByteArray} {bv:Bool} (ho:o.op= .binOp .eql 9 x y 9) (hx:a.eval x= .string A) (hy:a.eval y= .string B) (hbv:(A.toList==B.toList)=bv):(execOp a.eval o).run Tryz.prog w= .ok (.value (.bool bv)) w:=by
 unfold execOp
 simp only[ho,hx,hy]
 go_simp
theorem cmp27_plain (x y:Vl) (hx:plainV x=true) (hy:plainV y=true) (w:World) (hE:Env w):Calls Tryz.prog 27 #[.agg (pcs x),.agg (pcs y)] w (Gives (.int .i64 (cmpV 4 x y)) w):=
 cmp28_any 2 x y _ _ w (rp_plain hx) (rp_plain hy) (.inl hx) (.inl hy) hE.1
theorem empty_ok :txtOk ⟨#[]⟩=true:=rfl
/-- A text's beginning and end. -/
theorem cut_back (A:ByteArray) (k:Nat):catV [mk (((sgs A.data.toList).drop 0).take k).flatten,mk (((sgs A.data.toList).drop k).take ((sgs A.data.toList).length-k)).flatten]=txtV A:=by
 have h:=sgs_flat _ A.data.toList (Nat.le_refl _)
 obtain⟨G,hG⟩:∃G,G=sgs A.data.toList:=⟨_,rfl⟩
 rw[←hG]at h⊢
 unfold catV
 simp only[List.map_cons,List.map_nil,mk_data,List.flatten_cons,List.flatten_nil,List.append_nil,List.drop_zero]
 rw[List.take_of_length_le (l:=G.drop k) (by rw[List.length_drop];omega),←List.flatten_append,List.take_append_drop,h,mk_back]
/-- What is found is cut out again. -/
theorem found (A B:ByteArray) (hA:isTextL A.data.toList=true) (hB:isTextL B.data.toList=true) (C:ByteArray) (hC:C.data.toList=A.data.toList++B.data.toList):
 ∃(i r:Nat),index C.data.toList B.data.toList=(i:Int)∧i≤A.size∧(sgs (C.data.toList.take i)).length=r∧r≤(sgs A.data.toList).length∧r<(sgs C.data.toList).length+1∧mk (((sgs C.data.toList).drop r).take (sgs B.data.toList).length).flatten=B:=by
 obtain⟨i,q,h1,h2,h3,h4⟩:=find_at _ _ hA hB
 have ht:C.data.toList.take i=A.data.toList.take i:=by rw[hC,List.take_append_of_le_length h2]
 have hs:sgs C.data.toList=sgs (A.data.toList.take i)++(sgs B.data.toList++sgs q):=by
  rw[hC,h3,sgs_app _ _ _ (Nat.le_refl _) h4,sgs_app _ _ _ (Nat.le_refl _) hB]
 refine⟨i,(sgs (A.data.toList.take i)).length,by rw[hC];exact h1,by rw[Lib.size_eq];exact h2,by rw[ht],sgs_take_le h4,?_,?_⟩
 ·rw[hs,List.length_append];omega
 ·rw[hs,List.drop_left,List.take_left,sgs_flat _ _ (Nat.le_refl _),mk_back]
set_option maxRecDepth 100000 in
set_option maxHeartbeats 16000000 in
theorem law_texts (s t:ByteArray) (q:Int) (hs:s.size≤9223372036854775807) (ht:t.size≤9223372036854775807) (hq0:0≤q) (hq1:q≤255) (w:World) (hE:Env w):Calls Tryz.prog 6 #[.string s,.string t,.int .u8 q] w (Gives (.bool true) w):=by
 have HPA:=Lib.hid (fun W=>pure_any s W hs)
 have HPB:=Lib.hid (fun W=>pure_any t W ht)
 obtain⟨okA,szA⟩:=pure_ok s
 obtain⟨okB,szB⟩:=pure_ok t
 obtain⟨A,hA⟩:∃A,A=pureS s:=⟨_,rfl⟩
 obtain⟨B,hB⟩:∃B,B=pureS t:=⟨_,rfl⟩
 rw[←hA]at HPA okA szA
 rw[←hB]at HPB okB szB
 clear hA hB hs ht
 have tA:=txt_isT okA
 have tB:=txt_isT okB
 have hnA:=sgs_len _ A.data.toList (Nat.le_refl _)
 have hnB:=sgs_len _ B.data.toList (Nat.le_refl _)
 rw[←Lib.size_eq]at hnA hnB
 obtain⟨n,hn⟩:∃n,n=(sgs A.data.toList).length:=⟨_,rfl⟩
 obtain⟨m,hm⟩:∃n,n=(sgs B.data.toList).length:=⟨_,rfl⟩
 obtain⟨k,hk⟩:∃k,k=(q%((n:Int)+1)).toNat:=⟨_,rfl⟩
 have hqm:=Int.emod_nonneg q (show((n:Int)+1)≠0 by omega)
 have hql:=Int.emod_lt_of_pos q (show(0:Int)<(n:Int)+1 by omega)
 have hkq:q%((n:Int)+1)=(k:Int):=by omega
 have hkn:k≤n:=by omega
 have hkt:q.tmod ((n:Int)+1)=(k:Int):=by rw[Int.tmod_eq_emod_of_nonneg hq0];exact hkq
 clear hqm hql hk
 have in40:n≤40:=by omega
 have im40:m≤40:=by omega
 have in0:(sgs A.data.toList).length=n:=hn.symm
 obtain⟨r,hr⟩:∃r,r=n-k:=⟨_,rfl⟩
 have ir:r≤n:=by omega
 have irk:n-r=k:=by omega
 have i250n:n≤250:=by omega
 have i250k:k≤250:=by omega
 have i250r:r≤250:=by omega
 have i200k:k≤200:=by omega
 have i200n:n≤200:=by omega
 have i200m:m≤200:=by omega
 have ik1:0<(sgs A.data.toList).length+1:=by omega
 have ik2:k<(sgs A.data.toList).length+1:=by omega
 have ik3:k≤(sgs A.data.toList).length:=by omega
 have ik4:r≤(sgs A.data.toList).length:=by omega
 have ik5:(sgs A.data.toList).length-r=k:=by omega
 have b1: -9223372036854775808≤(k:Int)∧(k:Int)≤9223372036854775807:=by omega
 have b2: -9223372036854775808≤(r:Int)∧(r:Int)≤9223372036854775807:=by omega
 have b3: -9223372036854775808≤((k+1:Nat):Int)∧((k+1:Nat):Int)≤9223372036854775807:=by omega
 have b4: -9223372036854775808≤(n:Int)∧(n:Int)≤9223372036854775807:=by omega
 have b5: -9223372036854775808≤((n+1:Nat):Int)∧((n+1:Nat):Int)≤9223372036854775807:=by omega
 have v1:((k+1:Nat):Int)=(k:Int)+1:=by omega
 have v2:((n+1:Nat):Int)=(n:Int)+1:=by omega
 have hwr:IntKind.i64.wrap ((n:Int)-(k:Int))=(r:Int):=by rw[IntKind.wrap_i64];omega
 have hw1:IntKind.i64.wrap ((n:Int)+1)=(n:Int)+1:=by rw[IntKind.wrap_i64];omega
 have hw2:IntKind.i64.wrap ((k:Int)+1)=(k:Int)+1:=by rw[IntKind.wrap_i64];omega
 have hw3:IntKind.i64.wrap q=q:=by rw[IntKind.wrap_i64];omega
 have hn0:¬((n:Int)<0):=by omega
 have hnz:(((n:Int)+1)==0)=false:=by rw[beq_eq_false_iff_ne];omega
 have hkI:(0:Int)≤(k:Int):=by omega
 have hnI:(n:Int)≤40:=by omega
 have hkI2:(k:Int)≤40:=by omega
 have szC:A.size+(B.size+0)≤200:=by omega
 obtain⟨C,hC⟩:∃C,C=mk (([A,B].map (·.data.toList)).flatten):=⟨_,rfl⟩
 have okC:txtOk C=true:=by
  rw[hC]
  refine cat_ok (fun x hx=> ?_) ?_
  ·simp only[List.mem_cons,List.not_mem_nil,or_false]at hx
   rcases hx with rfl|rfl<;>assumption
  ·exact szC
 have hCd:C.data.toList=A.data.toList++B.data.toList:=by rw[hC,mk_data];simp
 obtain⟨i,rr,hi,hiA,hir,hrn,hrC,hfb⟩:=found A B tA tB C hCd
 have hiC:i≤C.size:=by rw[Lib.size_eq,hCd,List.length_append,←Lib.size_eq];omega
 rw[←hn]at hrn
 rw[←hm]at hfb
 have ip:rr+1≤n+1:=by omega
 have ip2:n+1<60:=by omega
 have vp:(1+(rr:Int))=((rr+1:Nat):Int):=by omega
 have okL:=part_text okA 0 k
 have okR:=part_text okA k r
 have hcb:=cut_back A k
 rw[←hn,←hr]at hcb
 obtain⟨Lp,hLp⟩:∃z,z=mk (((sgs A.data.toList).drop 0).take k).flatten:=⟨_,rfl⟩
 obtain⟨Rp,hRp⟩:∃z,z=mk (((sgs A.data.toList).drop k).take r).flatten:=⟨_,rfl⟩
 rw[←hLp]at okL hcb
 rw[←hRp]at okR hcb
 have szL:Lp.size+(Rp.size+0)≤200:=by
  have h:=congrArg (fun v:Vl=>v.s.size) hcb
  have e:(catV [Lp,Rp]).s.size=sumS [Lp,Rp]:=by
   show(mk (([Lp,Rp].map (·.data.toList)).flatten)).size=_
   rw[←sumS_flat];rfl
  have h:(catV [Lp,Rp]).s.size=A.size:=h
  rw[e]at h
  have h2:sumS [Lp,Rp]=Lp.size+(Rp.size+0):=rfl
  rw[←h2,h];exact Nat.le_trans szA (by decide)
 have e2':mk (((sgs A.data.toList).drop k).take n).flatten=Rp:=by
  rw[hRp,List.take_of_length_le (l:=(sgs A.data.toList).drop k) (i:=n) (by rw[List.length_drop,in0];omega),List.take_of_length_le (l:=(sgs A.data.toList).drop k) (i:=r) (by rw[List.length_drop,in0];omega)]
 have okU:=cas_ok (.inl ⟨rfl,rfl⟩:Cased 97 65) okA
 have okW:=cas_ok (.inr ⟨rfl,rfl⟩:Cased 65 97) okA
 have hUn:=(cas_text (.inl ⟨rfl,rfl⟩:Cased 97 65) _ A.data.toList (Nat.le_refl _) tA).2
 have hUW:=up_low A.data.toList
 obtain⟨Up,hUp⟩:∃z,z=mk (casL 97 65 A.data.toList):=⟨_,rfl⟩
 obtain⟨Lo,hLo⟩:∃z,z=mk (casL 65 97 A.data.toList):=⟨_,rfl⟩
 have hUd:Up.data.toList=casL 97 65 A.data.toList:=by rw[hUp,mk_data]
 have hLd:Lo.data.toList=casL 65 97 A.data.toList:=by rw[hLo,mk_data]
 rw[←hUp]at okU
 rw[←hLo]at okW
 have evU:casV 97 65 A=txtV Up:=by unfold casV;rw[hUp]
 have evW:casV 65 97 A=txtV Lo:=by unfold casV;rw[hLo]
 have evUW:casV 97 65 Lo=txtV Up:=by unfold casV;rw[hLd,hUW,hUp]
 have elU:lenV Up=lenV A:=by unfold lenV;rw[hUd,hUn]
 have eC:catV [A,B]=txtV C:=by unfold catV;rw[hC]
 have cn:=cnt_is (k:=n) i250n
 have ck:=cnt_is (k:=k) i250k
 have cr:=cnt_is (k:=r) i250r
 have hcm:=cmp_cnt (a:=rr+1) (b:=n+1) ip ip2
 have e1:=mid_is A okA 0 k ik1 i200k
 have e2:=mid_is A okA k n ik2 i200n
 have e3:=mid_is C okC rr m hrC i200m
 rw[hfb]at e3
 rw[e2']at e2
 rw[←hLp]at e1
 have efd:findV C.data.toList B.data.toList=cntV (rr+1):=by
  unfold findV
  rw[hi]
  show numV (ofD (1+((sgs (C.data.toList.take i)).length:Int))).1=_
  rw[hir,vp]
 have eln:lenV A=cntV n:=by unfold lenV;rw[←hn]
 have elm:lenV B=cntV m:=by unfold lenV;rw[←hm]
 have qn:=cnt_rp n
 have qk:=cnt_rp k
 have qr:=cnt_rp r
 have q1:=cnt_rp 1
 have qk1:=cnt_rp (k+1)
 have qp:=cnt_rp (rr+1)
 have qm:=cnt_rp m
 have qn1:=cnt_rp (n+1)
 have HNK0:=Lib.hid (fun W=>num23_any (k:Int) W b1.1 b1.2)
 have HNR0:=Lib.hid (fun W=>num23_any (r:Int) W b2.1 b2.2)
 have HN10:=Lib.hid (fun W=>num23_any 1 W (by decide) (by decide))
 have HNK1:=Lib.hid (fun W=>num23_any ((k+1:Nat):Int) W b3.1 b3.2)
 have HNN0:=Lib.hid (fun W=>num23_any (n:Int) W b4.1 b4.2)
 have HNN1:=Lib.hid (fun W=>num23_any ((n+1:Nat):Int) W b5.1 b5.2)
 rw[v1]at HNK1
 rw[v2]at HNN1
 have c1:=cnt_is (k:=1) (by decide)
 rw[show ((1:Nat):Int)=1 from rfl]at q1
 unfold cntV at e1 e2 e3 efd eln elm hcm cn ck cr
 rw[show ((0+1:Nat):Int)=1 from rfl]at e1
 rw[v1]at e2 qk1
 rw[v2]at hcm qn1
 obtain⟨pk,hpk⟩:∃p,p=(ofD (k:Int)).1:=⟨_,rfl⟩
 obtain⟨pr,hpr⟩:∃p,p=(ofD (r:Int)).1:=⟨_,rfl⟩
 obtain⟨p1,hp1⟩:∃p,p=(ofD 1).1:=⟨_,rfl⟩
 obtain⟨pk1,hpk1⟩:∃p,p=(ofD ((k:Int)+1)).1:=⟨_,rfl⟩
 obtain⟨pn1,hpn1⟩:∃p,p=(ofD ((n:Int)+1)).1:=⟨_,rfl⟩
 obtain⟨pp,hpp⟩:∃p,p=(ofD ((rr+1:Nat):Int)).1:=⟨_,rfl⟩
 obtain⟨pm,hpm⟩:∃p,p=(ofD (m:Int)).1:=⟨_,rfl⟩
 obtain⟨pn,hpn⟩:∃p,p=(ofD (n:Int)).1:=⟨_,rfl⟩
 rw[←hpk]at qk HNK0 ck e1
 rw[←hpr]at qr HNR0 cr
 rw[←hp1]at q1 HN10 e1
 rw[←hpk1]at qk1 HNK1 e2
 rw[←hpn1]at qn1 HNN1 hcm
 rw[←hpp]at qp efd e3 hcm
 rw[←hpm]at qm elm e3
 rw[←hpn]at qn HNN0 cn eln e2
 clear hpk hpr hp1 hpk1 hpn1 hpp hpm hpn c1
 obtain⟨pnm,pne⟩:=pn
 have HLEN:=Lib.hid (show ∀W g,Below w.heap.size w W→Els [(txtV A)] g 0 W→Calls Tryz.prog 20 #[.string ⟨#[76,69,78]⟩,.slice (some ⟨g,0,none⟩) 1 1] W (Gives (.agg (pcs (numV (pnm,pne)))) W)from fun W g hW hEl=>call20 _ _ W _ _ 1 1 rfl fun W2 hW2=>by
  have h:=call_len A okA g 1 (by decide) (by unfold maxLen;omega) W2 (hEl.below hW2) ((hE.below hW).below hW2)
  rw[eln]at h;exact h)
 have HLEB:=Lib.hid (show ∀W g,Below w.heap.size w W→Els [(txtV B)] g 0 W→Calls Tryz.prog 20 #[.string ⟨#[76,69,78]⟩,.slice (some ⟨g,0,none⟩) 1 1] W (Gives (.agg (pcs (numV pm))) W)from fun W g hW hEl=>call20 _ _ W _ _ 1 1 rfl fun W2 hW2=>by
  have h:=call_len B okB g 1 (by decide) (by unfold maxLen;omega) W2 (hEl.below hW2) ((hE.below hW).below hW2)
  rw[elm]at h;exact h)
 have HLEU:=Lib.hid (show ∀W g,Below w.heap.size w W→Els [(txtV Up)] g 0 W→Calls Tryz.prog 20 #[.string ⟨#[76,69,78]⟩,.slice (some ⟨g,0,none⟩) 1 1] W (Gives (.agg (pcs (numV (pnm,pne)))) W)from fun W g hW hEl=>call20 _ _ W _ _ 1 1 rfl fun W2 hW2=>by
  have h:=call_len Up okU g 1 (by decide) (by unfold maxLen;omega) W2 (hEl.below hW2) ((hE.below hW).below hW2)
  rw[elU,eln]at h;exact h)
 have HLFT:=Lib.hid (show ∀W g,Below w.heap.size w W→Els [(txtV A),(numV pk)] g 0 W→Calls Tryz.prog 20 #[.string ⟨#[76,69,70,84]⟩,.slice (some ⟨g,0,none⟩) 2 2] W (Gives (.agg (pcs (txtV Lp))) W)from fun W g hW hEl=>call20 _ _ W _ _ 2 2 rfl fun W2 hW2=>by
  have h:=call_left A okA k ik3 pk qk ck.1 ck.2.1 g 2 (by decide) (by unfold maxLen;omega) W2 (hEl.below hW2) ((hE.below hW).below hW2)
  rw[←hLp]at h;exact h)
 have HRGT:=Lib.hid (show ∀W g,Below w.heap.size w W→Els [(txtV A),(numV pr)] g 0 W→Calls Tryz.prog 20 #[.string ⟨#[82,73,71,72,84]⟩,.slice (some ⟨g,0,none⟩) 2 2] W (Gives (.agg (pcs (txtV Rp))) W)from fun W g hW hEl=>call20 _ _ W _ _ 2 2 rfl fun W2 hW2=>by
  have h:=call_right A okA r ik4 pr qr cr.1 cr.2.1 g 2 (by decide) (by unfold maxLen;omega) W2 (hEl.below hW2) ((hE.below hW).below hW2)
  rw[ik5,←hRp]at h;exact h)
 have HCLR:=Lib.hid (show ∀W g,Below w.heap.size w W→Els [(txtV Lp),(txtV Rp)] g 0 W→Calls Tryz.prog 20 #[.string ⟨#[67,79,78,67,65,84]⟩,.slice (some ⟨g,0,none⟩) 2 2] W (Gives (.agg (pcs (txtV A))) W)from fun W g hW hEl=>call20 _ _ W _ _ 2 2 rfl fun W2 hW2=>by
  have h:=call_concat [Lp,Rp] (by intro x hx;simp only[List.mem_cons,List.not_mem_nil,or_false]at hx;rcases hx with rfl|rfl<;>assumption) szL (by simp) 2 rfl (by decide) g 2 (by decide) (by unfold maxLen;omega) W2 (hEl.below hW2) ((hE.below hW).below hW2)
  rw[hcb]at h;exact h)
 have HCAB:=Lib.hid (show ∀W g,Below w.heap.size w W→Els [(txtV A),(txtV B)] g 0 W→Calls Tryz.prog 20 #[.string ⟨#[67,79,78,67,65,84]⟩,.slice (some ⟨g,0,none⟩) 2 2] W (Gives (.agg (pcs (txtV C))) W)from fun W g hW hEl=>call20 _ _ W _ _ 2 2 rfl fun W2 hW2=>by
  have h:=call_concat [A,B] (by intro x hx;simp only[List.mem_cons,List.not_mem_nil,or_false]at hx;rcases hx with rfl|rfl<;>assumption) szC (by simp) 2 rfl (by decide) g 2 (by decide) (by unfold maxLen;omega) W2 (hEl.below hW2) ((hE.below hW).below hW2)
  rw[eC]at h;exact h)
 have HMD1:=Lib.hid (show ∀W g,Below w.heap.size w W→Els [(txtV A),(numV p1),(numV pk)] g 0 W→Calls Tryz.prog 20 #[.string ⟨#[77,73,68]⟩,.slice (some ⟨g,0,none⟩) 3 3] W (Gives (.agg (pcs (txtV Lp))) W)from fun W g hW hEl=>call20 _ _ W _ _ 3 3 rfl fun W2 hW2=>by
  have h:=call_mid2 A okA p1 pk q1 qk g 3 (by decide) (by unfold maxLen;omega) W2 (hEl.below hW2) ((hE.below hW).below hW2)
  rw[e1]at h;exact h)
 have HMD2:=Lib.hid (show ∀W g,Below w.heap.size w W→Els [(txtV A),(numV pk1),(numV (pnm,pne))] g 0 W→Calls Tryz.prog 20 #[.string ⟨#[77,73,68]⟩,.slice (some ⟨g,0,none⟩) 3 3] W (Gives (.agg (pcs (txtV Rp))) W)from fun W g hW hEl=>call20 _ _ W _ _ 3 3 rfl fun W2 hW2=>by
  have h:=call_mid2 A okA pk1 (pnm,pne) qk1 qn g 3 (by decide) (by unfold maxLen;omega) W2 (hEl.below hW2) ((hE.below hW).below hW2)
  rw[e2]at h;exact h)
 have HMD3:=Lib.hid (show ∀W g,Below w.heap.size w W→Els [(txtV C),(numV pp),(numV pm)] g 0 W→Calls Tryz.prog 20 #[.string ⟨#[77,73,68]⟩,.slice (some ⟨g,0,none⟩) 3 3] W (Gives (.agg (pcs (txtV B))) W)from fun W g hW hEl=>call20 _ _ W _ _ 3 3 rfl fun W2 hW2=>by
  have h:=call_mid2 C okC pp pm qp qm g 3 (by decide) (by unfold maxLen;omega) W2 (hEl.below hW2) ((hE.below hW).below hW2)
  rw[e3]at h;exact h)
 have HFND:=Lib.hid (show ∀W g,Below w.heap.size w W→Els [(txtV B),(txtV C)] g 0 W→Calls Tryz.prog 20 #[.string ⟨#[70,73,78,68]⟩,.slice (some ⟨g,0,none⟩) 2 2] W (Gives (.agg (pcs (numV pp))) W)from fun W g hW hEl=>call20 _ _ W _ _ 2 2 rfl fun W2 hW2=>by
  have h:=call_find B C okB okC i hi hiC g 2 (by decide) (by unfold maxLen;omega) W2 (hEl.below hW2) ((hE.below hW).below hW2)
  rw[efd]at h;exact h)
 have HUPA:=Lib.hid (show ∀W g,Below w.heap.size w W→Els [(txtV A)] g 0 W→Calls Tryz.prog 20 #[.string ⟨#[85,80,80,69,82]⟩,.slice (some ⟨g,0,none⟩) 1 1] W (Gives (.agg (pcs (txtV Up))) W)from fun W g hW hEl=>call20 _ _ W _ _ 1 1 rfl fun W2 hW2=>by
  have h:=call_upper A okA g 1 (by decide) (by unfold maxLen;omega) W2 (hEl.below hW2) ((hE.below hW).below hW2)
  rw[evU]at h;exact h)
 have HUPW:=Lib.hid (show ∀W g,Below w.heap.size w W→Els [(txtV Lo)] g 0 W→Calls Tryz.prog 20 #[.string ⟨#[85,80,80,69,82]⟩,.slice (some ⟨g,0,none⟩) 1 1] W (Gives (.agg (pcs (txtV Up))) W)from fun W g hW hEl=>call20 _ _ W _ _ 1 1 rfl fun W2 hW2=>by
  have h:=call_upper Lo okW g 1 (by decide) (by unfold maxLen;omega) W2 (hEl.below hW2) ((hE.below hW).below hW2)
  rw[evUW]at h;exact h)
 have HLOW:=Lib.hid (show ∀W g,Below w.heap.size w W→Els [(txtV A)] g 0 W→Calls Tryz.prog 20 #[.string ⟨#[76,79,87,69,82]⟩,.slice (some ⟨g,0,none⟩) 1 1] W (Gives (.agg (pcs (txtV Lo))) W)from fun W g hW hEl=>call20 _ _ W _ _ 1 1 rfl fun W2 hW2=>by
  have h:=call_lower A okA g 1 (by decide) (by unfold maxLen;omega) W2 (hEl.below hW2) ((hE.below hW).below hW2)
  rw[evW]at h;exact h)
 have HEXA:=Lib.hid (show ∀W g,Below w.heap.size w W→Els [(txtV A),(txtV B)] g 0 W→Calls Tryz.prog 20 #[.string ⟨#[69,88,65,67,84]⟩,.slice (some ⟨g,0,none⟩) 2 2] W (Gives (.agg (pcs (trV (A.toList==B.toList)))) W)from fun W g hW hEl=>call20 _ _ W _ _ 2 2 rfl fun W2 hW2=>by
  have h:=call_exact2 A B okA okB _ rfl g 2 (by decide) (by unfold maxLen;omega) W2 (hEl.below hW2) ((hE.below hW).below hW2)
  exact h)
 have HSUB:=Lib.hid (show ∀W g,Below w.heap.size w W→Els [(txtV C),(txtV ⟨#[]⟩),(txtV B)] g 0 W→Calls Tryz.prog 20 #[.string ⟨#[83,85,66,83,84,73,84,85,84,69]⟩,.slice (some ⟨g,0,none⟩) 3 3] W (Gives (.agg (pcs (txtV C))) W)from fun W g hW hEl=>call20 _ _ W _ _ 3 3 rfl fun W2 hW2=>by
  have h:=call_subst C B okC empty_ok okB g 3 (by decide) (by unfold maxLen;omega) W2 (hEl.below hW2) ((hE.below hW).below hW2)
  exact h)
 have HSA:=Lib.hid (show ∀z,plainV z=true→∀W,Calls Tryz.prog 21 #[.agg (pcs z),.agg (pcs z)] W (Gives (.bool true) W)from fun z hz W=>same26 (at_plain hz) (at_plain hz) rfl)
 have HSXA:=Lib.hid (HSA.out (txtV A) (plain_txt okA))
 have HSXB:=Lib.hid (HSA.out (txtV B) (plain_txt okB))
 have HSXC:=Lib.hid (HSA.out (txtV C) (plain_txt okC))
 have HSLT:=Lib.hid (HSA.out (txtV Lp) (plain_txt okL))
 have HSRT:=Lib.hid (HSA.out (txtV Rp) (plain_txt okR))
 have HSUU:=Lib.hid (HSA.out (txtV Up) (plain_txt okU))
 have HSNN:=Lib.hid (HSA.out (numV (pnm,pne)) (plain_num qn))
 have HSTR:=Lib.hid (HSA.out (trV (A.toList==B.toList)) rfl)
 have HFL:=Lib.hid (show ∀W,Calls Tryz.prog 26 #[.agg #[.int .i64 pnm,.int .i64 pne]] W (FloorPost ((n:Int),0) W)from fun W=>by
  have h:=floor_any pnm pne W (Int.le_trans (by decide) qn.1) (Int.le_trans qn.2.1 (by decide))
  have e:=cn.2.2.2
  simp only at e
  rw[e]at h
  exact h)
 have hpl1:=plain_num qp
 have hpl2:=plain_num qn1
 obtain⟨cq,hcq⟩:∃c,c=cmpV 4 (numV pp) (numV pn1):=⟨_,rfl⟩
 rw[←hcq]at hcm
 have HCM:=Lib.hid (show ∀W,Below w.heap.size w W→Calls Tryz.prog 27 #[.agg (pcs (numV pp)),.agg (pcs (numV pn1))] W (Gives (.int .i64 cq) W)from fun W hW=>by
  rw[hcq];exact cmp27_plain _ _ hpl1 hpl2 W (hE.below hW))
 have HTA:=Lib.hid (fun W=>text24_any A W)
 have HTB:=Lib.hid (fun W=>text24_any B W)
 have HTE:=Lib.hid (fun W=>text24_any ⟨#[]⟩ W)
 have HEX:=Lib.hid (examples_any w hE)
 have hcq0:¬((0:Int)<cq):=Int.not_lt.2 hcm
 obtain⟨bv,hbv⟩:∃b,b=(A.toList==B.toList):=⟨_,rfl⟩
 rw[←hbv]at HEXA HSTR
 have HBV:=Lib.hid hbv.symm
 clear hbv
 clear in40 im40 in0 ir irk i250n i250k i250r i200k i200n i200m ik1 ik2 ik3 ik4 ik5 b1 b2 b3 b4 b5 v1 v2 ip ip2 vp szC
 clear okA okB okC okL okR okU okW szA szB szL tA tB hnA hnB hn hm hr hC hCd hi hiA hir hrn hrC hfb hiC hcb hLp hRp hUn hUW hUp hLo hUd hLd evU evW evUW elU eC cn ck cr hcm e1 e2 e3 e2' efd eln elm qn qk qr q1 qk1 qp qm qn1 hpl1 hpl2 hcq HSA hE
 go_enter Tryz.func6,Tryz.ntmps6
 go_upto_region 1 with fail
 go_simp
 go_wp2_with fail
 refine HEX.out.mono ?_
 rintro e w1 ⟨rfl,hB1⟩
 have HB:=Lib.hid (show ∀W,Below w1.heap.size w1 W→Below w.heap.size w W from fun W hW=>hB1.trans (hW.mono hB1.size))
 clear hB1 HEX
 have hs:Below w1.heap.size w1 w1:=Below.refl _ _
 go_upto_region 5 with (first|(go_at_call 25;refine(HPA.out _).mono ?_;rintro e y1c0 ⟨rfl,hw9⟩;have hw9:=hw9.symm;subst hw9)|(go_at_call 24;refine(HTA.out _).mono ?_;rintro e y1c1 ⟨rfl,hb⟩;have hs:=hs.trans (hb.mono hs.size))|refine wpList_alloc34 rfl rfl ?_|(refine wpList_store34 rfl rfl rfl rfl (World.vb_new' _ _ _ (by simp)) (by rfl) (pcs_one _) ?_;intro y1 hn hg hz))
 go_simp
 have hst:Below w1.heap.size w1 y1:=(hs.alloc hs.size (.cells vz 39)).grown hg (by have:=hs.size;simp at this ⊢;omega) (fun k hk=>by cases hk;have:=hs.size;simp at this ⊢;omega)
 obtain⟨b8,hb8,hn⟩:∃b,b=_∧World.vb y1 b (pcs (txtV A)):=⟨_,rfl,hn⟩
 rw[←hb8]
 have HS:=Lib.hid (show ∀W,Below y1.heap.size y1 W→World.vb W b8 (pcs (txtV A))from fun W hW=>hn.below hW hn.lt)
 have HB:=Lib.hid (show ∀W,Below y1.heap.size y1 W→Below w.heap.size w W from fun W hW=>HB.out W (hst.trans (hW.mono hst.size)))
 clear hn hst
 clear hg hz hs hb8
 (try clear hA)
 (try clear hb)
 have hs:Below y1.heap.size y1 y1:=Below.refl _ _
 go_upto_region 6 with (first|(go_at_call 25;refine(HPB.out _).mono ?_;rintro e y2c0 ⟨rfl,hw9⟩;have hw9:=hw9.symm;subst hw9)|(go_at_call 24;refine(HTB.out _).mono ?_;rintro e y2c1 ⟨rfl,hb⟩;have hs:=hs.trans (hb.mono hs.size))|refine wpList_alloc34 rfl rfl ?_|(refine wpList_store34 rfl rfl rfl rfl (World.vb_new' _ _ _ (by simp)) (by rfl) (pcs_one _) ?_;intro y2 hn hg hz))
 go_simp
 have hst:Below y1.heap.size y1 y2:=(hs.alloc hs.size (.cells vz 39)).grown hg (by have:=hs.size;simp at this ⊢;omega) (fun k hk=>by cases hk;have:=hs.size;simp at this ⊢;omega)
 obtain⟨b9,hb9,hn⟩:∃b,b=_∧World.vb y2 b (pcs (txtV B)):=⟨_,rfl,hn⟩
 rw[←hb9]
 have HS:=Lib.hid (show ∀W,Below y2.heap.size y2 W→World.vb W b9 (pcs (txtV B))∧World.vb W b8 (pcs (txtV A))from fun W hW=>⟨hn.below hW hn.lt,HS.out W (hst.trans (hW.mono hst.size))⟩)
 have HB:=Lib.hid (show ∀W,Below y2.heap.size y2 W→Below w.heap.size w W from fun W hW=>HB.out W (hst.trans (hW.mono hst.size)))
 clear hn hst
 clear hg hz hs hb9
 (try clear hA)
 (try clear hb)
 have hs:Below y2.heap.size y2 y2:=Below.refl _ _
 go_upto_region 7 with (first|refine wpList_load34 rfl rfl rfl ((HS.out _ hs).2) (by rfl) ?_|(refine wpList_bsl1 rfl rfl rfl ?_;have hA:Els [(txtV A)] _ 0 _:=els_new _ y2;have hs:=hs.alloc hs.size (.cells (vsC [(txtV A)]).toArray 39))|(go_at_call 20;refine(HLEN.out _ _ (HB.out _ hs) hA).mono ?_;rintro e y3c0 ⟨rfl,hb⟩;have hs:=hs.trans (hb.mono hs.size))|refine wpList_alloc34 rfl rfl ?_|(refine wpList_store34 rfl rfl rfl rfl (World.vb_new' _ _ _ (by simp)) (by rfl) (pcs_one _) ?_;intro y3 hn hg hz))
 go_simp
 have hst:Below y2.heap.size y2 y3:=(hs.alloc hs.size (.cells vz 39)).grown hg (by have:=hs.size;simp at this ⊢;omega) (fun k hk=>by cases hk;have:=hs.size;simp at this ⊢;omega)
 obtain⟨b10,hb10,hn⟩:∃b,b=_∧World.vb y3 b (pcs (numV (pnm,pne))):=⟨_,rfl,hn⟩
 rw[←hb10]
 have HS:=Lib.hid (show ∀W,Below y3.heap.size y3 W→World.vb W b10 (pcs (numV (pnm,pne)))∧World.vb W b9 (pcs (txtV B))∧World.vb W b8 (pcs (txtV A))from fun W hW=>⟨hn.below hW hn.lt,HS.out W (hst.trans (hW.mono hst.size))⟩)
 have HB:=Lib.hid (show ∀W,Below y3.heap.size y3 W→Below w.heap.size w W from fun W hW=>HB.out W (hst.trans (hW.mono hst.size)))
 clear hn hst
 clear hg hz hs hb10
 (try clear hA)
 (try clear hb)
 have hs:Below y3.heap.size y3 y3:=Below.refl _ _
 go_upto_region 8 with (first|refine wpList_loadDat rfl rfl rfl rfl (vb_dat ((HS.out _ hs).1)) ?_|(go_at_call 26;refine(HFL.out _).mono ?_;rintro e yf ⟨rfl,hb⟩))
 clear hs
 have HS:=Lib.hid (show ∀W,Below yf.heap.size yf W→World.vb W b10 (pcs (numV (pnm,pne)))∧World.vb W b9 (pcs (txtV B))∧World.vb W b8 (pcs (txtV A))from fun W hW=>HS.out W (hb.trans (hW.mono hb.size)))
 have HB:=Lib.hid (show ∀W,Below yf.heap.size yf W→Below w.heap.size w W from fun W hW=>HB.out W (hb.trans (hW.mono hb.size)))
 clear hb
 have c0:yf.cell? ⟨b10,0,none⟩=some (Value.int .i64 1):=((HS.out _ (Below.refl yf.heap.size yf)).1).cell (j:=0) rfl
 go_upto_region 11 with fail
 go_cut [14]from 54 to 58 (fun t wx=>∃b2,t= .pointer (some ⟨b2,0,none⟩)∧World.vb wx b2 (pcs (txtV Lp))∧Below yf.heap.size yf wx)
 case first=>
  have hs:Below yf.heap.size yf yf.drew:=(Below.refl _ _).drew
  refine wp_region_held_drew (S:=fun w9=>World.vb w9 b10 (pcs (numV (pnm,pne)))∧World.vb w9 b9 (pcs (txtV B))∧World.vb w9 b8 (pcs (txtV A))) (by kernel_rfl) (HS.out _ hs) (fun hHeld=> ?_)
  refine tk 0 ⟨some 54,_,_,_,_,_⟩ ?_ hHeld ?_ ?_
  rotate_left
  ·(intro w9 hSw;refine yields34 (x:= .tmp 8) (g:=b8) (cs:=pcs (txtV A)) ?_ ?_ rfl (hSw.2.2)<;>rfl)
  try simp only[Act.put,List.setIfInBounds_toArray,List.set_cons_zero,List.set_cons_succ]
  refine tk 1 ⟨some 55,_,_,_,_,_⟩ ?_ hHeld ?_ ?_
  rotate_left
  ·(intro w9 hSw;(try dsimp only at hSw);go_simp)
   all_goals with_reducible rfl
  try simp only[Act.put,List.setIfInBounds_toArray,List.set_cons_zero,List.set_cons_succ]
  refine wpAnyH_ready (rs:= [2,5]) (by kernel_rfl) (by simp) ?_
  refine(AllReadyH.cons (o:=⟨some 56,_,_,_,_,_⟩) rfl (fun KK hK=> ?_) (AllReadyH.cons (o:=⟨some 14,_,_,_,_,_⟩) rfl (fun KK hK=> ?_) AllReadyH.nil))
  ·(try rw[if_pos (by rfl)])
   go_simp
   refine(HNK0.out _).mono ?_
   rintro e a1 ⟨rfl,hb⟩
   (try have hv:=hv.below hb hv.lt)
   (try have hA:=hA.below hb)
   have hs:=hs.trans (hb.mono hs.size)
   clear hb
   refine hK.out _ _ (HS.out _ hs) ?_
   clear hK KK hHeld
   intro hHeld
   try simp only[Act.put,List.setIfInBounds_toArray,List.set_cons_zero,List.set_cons_succ,List.getElem_toArray,List.getElem_cons_zero,List.getElem_cons_succ]
   refine wpAnyH_ready (rs:= [3,5]) (by kernel_rfl) (by simp) ?_
   refine(AllReadyH.cons (o:=⟨some 57,_,_,_,_,_⟩) rfl (fun KK hK=> ?_) (AllReadyH.cons (o:=⟨some 14,_,_,_,_,_⟩) rfl (fun KK hK=> ?_) AllReadyH.nil))
   ·(try rw[if_pos (by rfl)])
    refine op_bsl2 rfl rfl rfl ?_
    obtain⟨a2,ha2⟩:∃X,X=World.alloc a1 (.cells (vsC [(txtV A),(numV pk)]).toArray 39):=⟨_,rfl⟩
    obtain⟨ga2,hga2⟩:∃g,g=(a1).heap.size:=⟨_,rfl⟩
    have hA:Els [(txtV A),(numV pk)] ga2 0 a2:=by rw[ha2,hga2];exact els_new _ _
    have hb:Below (a1).heap.size (a1) a2:=by rw[ha2];exact(Below.refl _ _).alloc (Nat.le_refl _) _
    rw[←ha2,←hga2]
    (try have hv:=hv.below hb hv.lt)
    have hs:=hs.trans (hb.mono hs.size)
    clear hb ha2 hga2
    refine hK.out _ _ (HS.out _ hs) ?_
    clear hK KK hHeld
    intro hHeld
    try simp only[Act.put,List.setIfInBounds_toArray,List.set_cons_zero,List.set_cons_succ]
    refine wpAnyH_ready (rs:= [4,5]) (by kernel_rfl) (by simp) ?_
    refine(AllReadyH.cons (o:=⟨some 58,_,_,_,_,_⟩) rfl (fun KK hK=> ?_) (AllReadyH.cons (o:=⟨some 14,_,_,_,_,_⟩) rfl (fun KK hK=> ?_) AllReadyH.nil))
    ·(try rw[if_pos (by rfl)])
     go_simp
     refine(HLFT.out _ _ (HB.out _ hs) hA).mono ?_
     rintro e a3 ⟨rfl,hb⟩
     (try have hv:=hv.below hb hv.lt)
     (try have hA:=hA.below hb)
     have hs:=hs.trans (hb.mono hs.size)
     clear hb
     refine hK.out _ _ (HS.out _ hs) ?_
     clear hK KK hHeld
     intro hHeld
     try simp only[Act.put,List.setIfInBounds_toArray,List.set_cons_zero,List.set_cons_succ,List.getElem_toArray,List.getElem_cons_zero,List.getElem_cons_succ]
     refine wpAnyH_ready (rs:= [5]) (by kernel_rfl) (by simp) ?_
     refine(AllReadyH.cons (o:=⟨some 14,_,_,_,_,_⟩) rfl (fun KK hK=> ?_) AllReadyH.nil)
     ·(try rw[if_pos (by rfl)])
      refine op_alloc39v rfl ?_
      obtain⟨a4,ha4⟩:∃X,X=World.alloc a3 (.cells vz 39):=⟨_,rfl⟩
      obtain⟨b14,hb14⟩:∃g,g=(a3).heap.size:=⟨_,rfl⟩
      have hvl:yf.heap.size≤b14:=by rw[hb14];exact hs.size
      have hv:World.vb a4 b14 vz:=by rw[ha4,hb14];exact World.vb_new _ _
      have hb:Below (a3).heap.size (a3) a4:=by rw[ha4];exact(Below.refl _ _).alloc (Nat.le_refl _) _
      (try have hA:=hA.below hb)
      have hs:=hs.trans (hb.mono hs.size)
      rw[←ha4,←hb14]
      clear hb ha4 hb14
      refine hK.out _ _ (HS.out _ hs) ?_
      clear hK KK hHeld
      intro hHeld
      try simp only[Act.put,List.setIfInBounds_toArray,List.set_cons_zero,List.set_cons_succ]
      refine wpAnyH_ready (rs:= [6]) (by kernel_rfl) (by simp) ?_
      refine(AllReadyH.cons (o:=⟨none,_,_,_,_,_⟩) rfl (fun KK hK=> ?_) AllReadyH.nil)
      ·(try rw[if_pos (by rfl)])
       refine op_store39v rfl rfl rfl hv (by rfl) (pcs_one _) ?_
       intro a5 hn9 hg9 hz9
       have hs:=hs.grown hg9 hs.size (fun k hk=>by cases hk;exact hvl)
       refine hK.out _ _ (HS.out _ hs) ?_
       clear hK KK hHeld
       intro hHeld
       try simp only[Act.put]
       refine wpAnyH_done (by kernel_rfl) ?_ _
       try simp only[Act.put,List.setIfInBounds_toArray,List.set_cons_zero,List.set_cons_succ,List.getElem_toArray,List.getElem_cons_zero,List.getElem_cons_succ]
       go_wp2_with fail
       go_meet
       exact⟨b14,rfl,hn9,hs⟩
    ·(try rw[if_pos (by rfl)])
     refine op_alloc39v rfl ?_
     obtain⟨a3,ha3⟩:∃X,X=World.alloc a2 (.cells vz 39):=⟨_,rfl⟩
     obtain⟨b14,hb14⟩:∃g,g=(a2).heap.size:=⟨_,rfl⟩
     have hvl:yf.heap.size≤b14:=by rw[hb14];exact hs.size
     have hv:World.vb a3 b14 vz:=by rw[ha3,hb14];exact World.vb_new _ _
     have hb:Below (a2).heap.size (a2) a3:=by rw[ha3];exact(Below.refl _ _).alloc (Nat.le_refl _) _
     (try have hA:=hA.below hb)
     have hs:=hs.trans (hb.mono hs.size)
     rw[←ha3,←hb14]
     clear hb ha3 hb14
     refine hK.out _ _ (HS.out _ hs) ?_
     clear hK KK hHeld
     intro hHeld
     try simp only[Act.put,List.setIfInBounds_toArray,List.set_cons_zero,List.set_cons_succ]
     refine wpAnyH_ready (rs:= [4]) (by kernel_rfl) (by simp) ?_
     refine(AllReadyH.cons (o:=⟨some 58,_,_,_,_,_⟩) rfl (fun KK hK=> ?_) AllReadyH.nil)
     ·(try rw[if_pos (by rfl)])
      go_simp
      refine(HLFT.out _ _ (HB.out _ hs) hA).mono ?_
      rintro e a4 ⟨rfl,hb⟩
      (try have hv:=hv.below hb hv.lt)
      (try have hA:=hA.below hb)
      have hs:=hs.trans (hb.mono hs.size)
      clear hb
      refine hK.out _ _ (HS.out _ hs) ?_
      clear hK KK hHeld
      intro hHeld
      try simp only[Act.put,List.setIfInBounds_toArray,List.set_cons_zero,List.set_cons_succ,List.getElem_toArray,List.getElem_cons_zero,List.getElem_cons_succ]
      refine wpAnyH_ready (rs:= [6]) (by kernel_rfl) (by simp) ?_
      refine(AllReadyH.cons (o:=⟨none,_,_,_,_,_⟩) rfl (fun KK hK=> ?_) AllReadyH.nil)
      ·(try rw[if_pos (by rfl)])
       refine op_store39v rfl rfl rfl hv (by rfl) (pcs_one _) ?_
       intro a5 hn9 hg9 hz9
       have hs:=hs.grown hg9 hs.size (fun k hk=>by cases hk;exact hvl)
       refine hK.out _ _ (HS.out _ hs) ?_
       clear hK KK hHeld
       intro hHeld
       try simp only[Act.put]
       refine wpAnyH_done (by kernel_rfl) ?_ _
       try simp only[Act.put,List.setIfInBounds_toArray,List.set_cons_zero,List.set_cons_succ,List.getElem_toArray,List.getElem_cons_zero,List.getElem_cons_succ]
       go_wp2_with fail
       go_meet
       exact⟨b14,rfl,hn9,hs⟩
   ·(try rw[if_pos (by rfl)])
    refine op_alloc39v rfl ?_
    obtain⟨a2,ha2⟩:∃X,X=World.alloc a1 (.cells vz 39):=⟨_,rfl⟩
    obtain⟨b14,hb14⟩:∃g,g=(a1).heap.size:=⟨_,rfl⟩
    have hvl:yf.heap.size≤b14:=by rw[hb14];exact hs.size
    have hv:World.vb a2 b14 vz:=by rw[ha2,hb14];exact World.vb_new _ _
    have hb:Below (a1).heap.size (a1) a2:=by rw[ha2];exact(Below.refl _ _).alloc (Nat.le_refl _) _
    (try have hA:=hA.below hb)
    have hs:=hs.trans (hb.mono hs.size)
    rw[←ha2,←hb14]
    clear hb ha2 hb14
    refine hK.out _ _ (HS.out _ hs) ?_
    clear hK KK hHeld
    intro hHeld
    try simp only[Act.put,List.setIfInBounds_toArray,List.set_cons_zero,List.set_cons_succ]
    refine wpAnyH_ready (rs:= [3]) (by kernel_rfl) (by simp) ?_
    refine(AllReadyH.cons (o:=⟨some 57,_,_,_,_,_⟩) rfl (fun KK hK=> ?_) AllReadyH.nil)
    ·(try rw[if_pos (by rfl)])
     refine op_bsl2 rfl rfl rfl ?_
     obtain⟨a3,ha3⟩:∃X,X=World.alloc a2 (.cells (vsC [(txtV A),(numV pk)]).toArray 39):=⟨_,rfl⟩
     obtain⟨ga3,hga3⟩:∃g,g=(a2).heap.size:=⟨_,rfl⟩
     have hA:Els [(txtV A),(numV pk)] ga3 0 a3:=by rw[ha3,hga3];exact els_new _ _
     have hb:Below (a2).heap.size (a2) a3:=by rw[ha3];exact(Below.refl _ _).alloc (Nat.le_refl _) _
     rw[←ha3,←hga3]
     (try have hv:=hv.below hb hv.lt)
     have hs:=hs.trans (hb.mono hs.size)
     clear hb ha3 hga3
     refine hK.out _ _ (HS.out _ hs) ?_
     clear hK KK hHeld
     intro hHeld
     try simp only[Act.put,List.setIfInBounds_toArray,List.set_cons_zero,List.set_cons_succ]
     refine wpAnyH_ready (rs:= [4]) (by kernel_rfl) (by simp) ?_
     refine(AllReadyH.cons (o:=⟨some 58,_,_,_,_,_⟩) rfl (fun KK hK=> ?_) AllReadyH.nil)
     ·(try rw[if_pos (by rfl)])
      go_simp
      refine(HLFT.out _ _ (HB.out _ hs) hA).mono ?_
      rintro e a4 ⟨rfl,hb⟩
      (try have hv:=hv.below hb hv.lt)
      (try have hA:=hA.below hb)
      have hs:=hs.trans (hb.mono hs.size)
      clear hb
      refine hK.out _ _ (HS.out _ hs) ?_
      clear hK KK hHeld
      intro hHeld
      try simp only[Act.put,List.setIfInBounds_toArray,List.set_cons_zero,List.set_cons_succ,List.getElem_toArray,List.getElem_cons_zero,List.getElem_cons_succ]
      refine wpAnyH_ready (rs:= [6]) (by kernel_rfl) (by simp) ?_
      refine(AllReadyH.cons (o:=⟨none,_,_,_,_,_⟩) rfl (fun KK hK=> ?_) AllReadyH.nil)
      ·(try rw[if_pos (by rfl)])
       refine op_store39v rfl rfl rfl hv (by rfl) (pcs_one _) ?_
       intro a5 hn9 hg9 hz9
       have hs:=hs.grown hg9 hs.size (fun k hk=>by cases hk;exact hvl)
       refine hK.out _ _ (HS.out _ hs) ?_
       clear hK KK hHeld
       intro hHeld
       try simp only[Act.put]
       refine wpAnyH_done (by kernel_rfl) ?_ _
       try simp only[Act.put,List.setIfInBounds_toArray,List.set_cons_zero,List.set_cons_succ,List.getElem_toArray,List.getElem_cons_zero,List.getElem_cons_succ]
       go_wp2_with fail
       go_meet
       exact⟨b14,rfl,hn9,hs⟩
  ·(try rw[if_pos (by rfl)])
   refine op_alloc39v rfl ?_
   obtain⟨a1,ha1⟩:∃X,X=World.alloc yf.drew (.cells vz 39):=⟨_,rfl⟩
   obtain⟨b14,hb14⟩:∃g,g=(yf.drew).heap.size:=⟨_,rfl⟩
   have hvl:yf.heap.size≤b14:=by rw[hb14];exact hs.size
   have hv:World.vb a1 b14 vz:=by rw[ha1,hb14];exact World.vb_new _ _
   have hb:Below (yf.drew).heap.size (yf.drew) a1:=by rw[ha1];exact(Below.refl _ _).alloc (Nat.le_refl _) _
   (try have hA:=hA.below hb)
   have hs:=hs.trans (hb.mono hs.size)
   rw[←ha1,←hb14]
   clear hb ha1 hb14
   refine hK.out _ _ (HS.out _ hs) ?_
   clear hK KK hHeld
   intro hHeld
   try simp only[Act.put,List.setIfInBounds_toArray,List.set_cons_zero,List.set_cons_succ]
   refine wpAnyH_ready (rs:= [2]) (by kernel_rfl) (by simp) ?_
   refine(AllReadyH.cons (o:=⟨some 56,_,_,_,_,_⟩) rfl (fun KK hK=> ?_) AllReadyH.nil)
   ·(try rw[if_pos (by rfl)])
    go_simp
    refine(HNK0.out _).mono ?_
    rintro e a2 ⟨rfl,hb⟩
    (try have hv:=hv.below hb hv.lt)
    (try have hA:=hA.below hb)
    have hs:=hs.trans (hb.mono hs.size)
    clear hb
    refine hK.out _ _ (HS.out _ hs) ?_
    clear hK KK hHeld
    intro hHeld
    try simp only[Act.put,List.setIfInBounds_toArray,List.set_cons_zero,List.set_cons_succ,List.getElem_toArray,List.getElem_cons_zero,List.getElem_cons_succ]
    refine wpAnyH_ready (rs:= [3]) (by kernel_rfl) (by simp) ?_
    refine(AllReadyH.cons (o:=⟨some 57,_,_,_,_,_⟩) rfl (fun KK hK=> ?_) AllReadyH.nil)
    ·(try rw[if_pos (by rfl)])
     refine op_bsl2 rfl rfl rfl ?_
     obtain⟨a3,ha3⟩:∃X,X=World.alloc a2 (.cells (vsC [(txtV A),(numV pk)]).toArray 39):=⟨_,rfl⟩
     obtain⟨ga3,hga3⟩:∃g,g=(a2).heap.size:=⟨_,rfl⟩
     have hA:Els [(txtV A),(numV pk)] ga3 0 a3:=by rw[ha3,hga3];exact els_new _ _
     have hb:Below (a2).heap.size (a2) a3:=by rw[ha3];exact(Below.refl _ _).alloc (Nat.le_refl _) _
     rw[←ha3,←hga3]
     (try have hv:=hv.below hb hv.lt)
     have hs:=hs.trans (hb.mono hs.size)
     clear hb ha3 hga3
     refine hK.out _ _ (HS.out _ hs) ?_
     clear hK KK hHeld
     intro hHeld
     try simp only[Act.put,List.setIfInBounds_toArray,List.set_cons_zero,List.set_cons_succ]
     refine wpAnyH_ready (rs:= [4]) (by kernel_rfl) (by simp) ?_
     refine(AllReadyH.cons (o:=⟨some 58,_,_,_,_,_⟩) rfl (fun KK hK=> ?_) AllReadyH.nil)
     ·(try rw[if_pos (by rfl)])
      go_simp
      refine(HLFT.out _ _ (HB.out _ hs) hA).mono ?_
      rintro e a4 ⟨rfl,hb⟩
      (try have hv:=hv.below hb hv.lt)
      (try have hA:=hA.below hb)
      have hs:=hs.trans (hb.mono hs.size)
      clear hb
      refine hK.out _ _ (HS.out _ hs) ?_
      clear hK KK hHeld
      intro hHeld
      try simp only[Act.put,List.setIfInBounds_toArray,List.set_cons_zero,List.set_cons_succ,List.getElem_toArray,List.getElem_cons_zero,List.getElem_cons_succ]
      refine wpAnyH_ready (rs:= [6]) (by kernel_rfl) (by simp) ?_
      refine(AllReadyH.cons (o:=⟨none,_,_,_,_,_⟩) rfl (fun KK hK=> ?_) AllReadyH.nil)
      ·(try rw[if_pos (by rfl)])
       refine op_store39v rfl rfl rfl hv (by rfl) (pcs_one _) ?_
       intro a5 hn9 hg9 hz9
       have hs:=hs.grown hg9 hs.size (fun k hk=>by cases hk;exact hvl)
       refine hK.out _ _ (HS.out _ hs) ?_
       clear hK KK hHeld
       intro hHeld
       try simp only[Act.put]
       refine wpAnyH_done (by kernel_rfl) ?_ _
       try simp only[Act.put,List.setIfInBounds_toArray,List.set_cons_zero,List.set_cons_succ,List.getElem_toArray,List.getElem_cons_zero,List.getElem_cons_succ]
       go_wp2_with fail
       go_meet
       exact⟨b14,rfl,hn9,hs⟩
 case rest=>
  obtain⟨b14,rfl,hn,hst⟩:=hcut
  obtain⟨y4,hy4⟩:∃W,W=wc:=⟨_,rfl⟩
  subst hy4
  have HS:=Lib.hid (show ∀W,Below y4.heap.size y4 W→World.vb W b14 (pcs (txtV Lp))∧World.vb W b10 (pcs (numV (pnm,pne)))∧World.vb W b9 (pcs (txtV B))∧World.vb W b8 (pcs (txtV A))from fun W hW=>⟨hn.below hW hn.lt,HS.out W (hst.trans (hW.mono hst.size))⟩)
  have HB:=Lib.hid (show ∀W,Below y4.heap.size y4 W→Below w.heap.size w W from fun W hW=>HB.out W (hst.trans (hW.mono hst.size)))
  clear hn hst
  go_upto_region 12 with fail
  go_cut [15]from 59 to 65 (fun t wx=>∃b2,t= .pointer (some ⟨b2,0,none⟩)∧World.vb wx b2 (pcs (txtV Rp))∧Below y4.heap.size y4 wx)
  case first=>
   have hs:Below y4.heap.size y4 y4.drew:=(Below.refl _ _).drew
   refine wp_region_held_drew (S:=fun w9=>World.vb w9 b14 (pcs (txtV Lp))∧World.vb w9 b10 (pcs (numV (pnm,pne)))∧World.vb w9 b9 (pcs (txtV B))∧World.vb w9 b8 (pcs (txtV A))) (by kernel_rfl) (HS.out _ hs) (fun hHeld=> ?_)
   refine tk 0 ⟨some 59,_,_,_,_,_⟩ ?_ hHeld ?_ ?_
   rotate_left
   ·(intro w9 hSw;refine yields34 (x:= .tmp 8) (g:=b8) (cs:=pcs (txtV A)) ?_ ?_ rfl (hSw.2.2.2)<;>rfl)
   try simp only[Act.put,List.setIfInBounds_toArray,List.set_cons_zero,List.set_cons_succ]
   refine tk 1 ⟨some 60,_,_,_,_,_⟩ ?_ hHeld ?_ ?_
   rotate_left
   ·(intro w9 hSw;(try dsimp only at hSw);go_simp)
    all_goals with_reducible rfl
   try simp only[Act.put,List.setIfInBounds_toArray,List.set_cons_zero,List.set_cons_succ]
   refine tk 2 ⟨some 61,_,_,_,_,_⟩ ?_ hHeld ?_ ?_
   rotate_left
   ·(intro w9 hSw;(try dsimp only at hSw);go_simp)
    all_goals with_reducible rfl
   try simp only[Act.put,List.setIfInBounds_toArray,List.set_cons_zero,List.set_cons_succ]
   refine tk 3 ⟨some 62,_,_,_,_,_⟩ ?_ hHeld ?_ ?_
   rotate_left
   ·(intro w9 hSw;(try dsimp only at hSw);go_simp)
    all_goals with_reducible rfl
   try simp only[Act.put,List.setIfInBounds_toArray,List.set_cons_zero,List.set_cons_succ]
   refine wpAnyH_ready (rs:= [4,7]) (by kernel_rfl) (by simp) ?_
   refine(AllReadyH.cons (o:=⟨some 63,_,_,_,_,_⟩) rfl (fun KK hK=> ?_) (AllReadyH.cons (o:=⟨some 15,_,_,_,_,_⟩) rfl (fun KK hK=> ?_) AllReadyH.nil))
   ·(try rw[if_pos (by rfl)])
    go_simp
    refine(HNR0.out _).mono ?_
    rintro e a1 ⟨rfl,hb⟩
    (try have hv:=hv.below hb hv.lt)
    (try have hA:=hA.below hb)
    have hs:=hs.trans (hb.mono hs.size)
    clear hb
    refine hK.out _ _ (HS.out _ hs) ?_
    clear hK KK hHeld
    intro hHeld
    try simp only[Act.put,List.setIfInBounds_toArray,List.set_cons_zero,List.set_cons_succ,List.getElem_toArray,List.getElem_cons_zero,List.getElem_cons_succ]
    refine wpAnyH_ready (rs:= [5,7]) (by kernel_rfl) (by simp) ?_
    refine(AllReadyH.cons (o:=⟨some 64,_,_,_,_,_⟩) rfl (fun KK hK=> ?_) (AllReadyH.cons (o:=⟨some 15,_,_,_,_,_⟩) rfl (fun KK hK=> ?_) AllReadyH.nil))
    ·(try rw[if_pos (by rfl)])
     refine op_bsl2 rfl rfl rfl ?_
     obtain⟨a2,ha2⟩:∃X,X=World.alloc a1 (.cells (vsC [(txtV A),(numV pr)]).toArray 39):=⟨_,rfl⟩
     obtain⟨ga2,hga2⟩:∃g,g=(a1).heap.size:=⟨_,rfl⟩
     have hA:Els [(txtV A),(numV pr)] ga2 0 a2:=by rw[ha2,hga2];exact els_new _ _
     have hb:Below (a1).heap.size (a1) a2:=by rw[ha2];exact(Below.refl _ _).alloc (Nat.le_refl _) _
     rw[←ha2,←hga2]
     (try have hv:=hv.below hb hv.lt)
     have hs:=hs.trans (hb.mono hs.size)
     clear hb ha2 hga2
     refine hK.out _ _ (HS.out _ hs) ?_
     clear hK KK hHeld
     intro hHeld
     try simp only[Act.put,List.setIfInBounds_toArray,List.set_cons_zero,List.set_cons_succ]
     refine wpAnyH_ready (rs:= [6,7]) (by kernel_rfl) (by simp) ?_
     refine(AllReadyH.cons (o:=⟨some 65,_,_,_,_,_⟩) rfl (fun KK hK=> ?_) (AllReadyH.cons (o:=⟨some 15,_,_,_,_,_⟩) rfl (fun KK hK=> ?_) AllReadyH.nil))
     ·(try rw[if_pos (by rfl)])
      go_simp
      refine(HRGT.out _ _ (HB.out _ hs) hA).mono ?_
      rintro e a3 ⟨rfl,hb⟩
      (try have hv:=hv.below hb hv.lt)
      (try have hA:=hA.below hb)
      have hs:=hs.trans (hb.mono hs.size)
      clear hb
      refine hK.out _ _ (HS.out _ hs) ?_
      clear hK KK hHeld
      intro hHeld
      try simp only[Act.put,List.setIfInBounds_toArray,List.set_cons_zero,List.set_cons_succ,List.getElem_toArray,List.getElem_cons_zero,List.getElem_cons_succ]
      refine wpAnyH_ready (rs:= [7]) (by kernel_rfl) (by simp) ?_
      refine(AllReadyH.cons (o:=⟨some 15,_,_,_,_,_⟩) rfl (fun KK hK=> ?_) AllReadyH.nil)
      ·(try rw[if_pos (by rfl)])
       refine op_alloc39v rfl ?_
       obtain⟨a4,ha4⟩:∃X,X=World.alloc a3 (.cells vz 39):=⟨_,rfl⟩
       obtain⟨b15,hb15⟩:∃g,g=(a3).heap.size:=⟨_,rfl⟩
       have hvl:y4.heap.size≤b15:=by rw[hb15];exact hs.size
       have hv:World.vb a4 b15 vz:=by rw[ha4,hb15];exact World.vb_new _ _
       have hb:Below (a3).heap.size (a3) a4:=by rw[ha4];exact(Below.refl _ _).alloc (Nat.le_refl _) _
       (try have hA:=hA.below hb)
       have hs:=hs.trans (hb.mono hs.size)
       rw[←ha4,←hb15]
       clear hb ha4 hb15
       refine hK.out _ _ (HS.out _ hs) ?_
       clear hK KK hHeld
       intro hHeld
       try simp only[Act.put,List.setIfInBounds_toArray,List.set_cons_zero,List.set_cons_succ]
       refine wpAnyH_ready (rs:= [8]) (by kernel_rfl) (by simp) ?_
       refine(AllReadyH.cons (o:=⟨none,_,_,_,_,_⟩) rfl (fun KK hK=> ?_) AllReadyH.nil)
       ·(try rw[if_pos (by rfl)])
        refine op_store39v rfl rfl rfl hv (by rfl) (pcs_one _) ?_
        intro a5 hn9 hg9 hz9
        have hs:=hs.grown hg9 hs.size (fun k hk=>by cases hk;exact hvl)
        refine hK.out _ _ (HS.out _ hs) ?_
        clear hK KK hHeld
        intro hHeld
        try simp only[Act.put]
        refine wpAnyH_done (by kernel_rfl) ?_ _
        try simp only[Act.put,List.setIfInBounds_toArray,List.set_cons_zero,List.set_cons_succ,List.getElem_toArray,List.getElem_cons_zero,List.getElem_cons_succ]
        go_wp2_with fail
        go_meet
        exact⟨b15,rfl,hn9,hs⟩
     ·(try rw[if_pos (by rfl)])
      refine op_alloc39v rfl ?_
      obtain⟨a3,ha3⟩:∃X,X=World.alloc a2 (.cells vz 39):=⟨_,rfl⟩
      obtain⟨b15,hb15⟩:∃g,g=(a2).heap.size:=⟨_,rfl⟩
      have hvl:y4.heap.size≤b15:=by rw[hb15];exact hs.size
      have hv:World.vb a3 b15 vz:=by rw[ha3,hb15];exact World.vb_new _ _
      have hb:Below (a2).heap.size (a2) a3:=by rw[ha3];exact(Below.refl _ _).alloc (Nat.le_refl _) _
      (try have hA:=hA.below hb)
      have hs:=hs.trans (hb.mono hs.size)
      rw[←ha3,←hb15]
      clear hb ha3 hb15
      refine hK.out _ _ (HS.out _ hs) ?_
      clear hK KK hHeld
      intro hHeld
      try simp only[Act.put,List.setIfInBounds_toArray,List.set_cons_zero,List.set_cons_succ]
      refine wpAnyH_ready (rs:= [6]) (by kernel_rfl) (by simp) ?_
      refine(AllReadyH.cons (o:=⟨some 65,_,_,_,_,_⟩) rfl (fun KK hK=> ?_) AllReadyH.nil)
      ·(try rw[if_pos (by rfl)])
       go_simp
       refine(HRGT.out _ _ (HB.out _ hs) hA).mono ?_
       rintro e a4 ⟨rfl,hb⟩
       (try have hv:=hv.below hb hv.lt)
       (try have hA:=hA.below hb)
       have hs:=hs.trans (hb.mono hs.size)
       clear hb
       refine hK.out _ _ (HS.out _ hs) ?_
       clear hK KK hHeld
       intro hHeld
       try simp only[Act.put,List.setIfInBounds_toArray,List.set_cons_zero,List.set_cons_succ,List.getElem_toArray,List.getElem_cons_zero,List.getElem_cons_succ]
       refine wpAnyH_ready (rs:= [8]) (by kernel_rfl) (by simp) ?_
       refine(AllReadyH.cons (o:=⟨none,_,_,_,_,_⟩) rfl (fun KK hK=> ?_) AllReadyH.nil)
       ·(try rw[if_pos (by rfl)])
        refine op_store39v rfl rfl rfl hv (by rfl) (pcs_one _) ?_
        intro a5 hn9 hg9 hz9
        have hs:=hs.grown hg9 hs.size (fun k hk=>by cases hk;exact hvl)
        refine hK.out _ _ (HS.out _ hs) ?_
        clear hK KK hHeld
        intro hHeld
        try simp only[Act.put]
        refine wpAnyH_done (by kernel_rfl) ?_ _
        try simp only[Act.put,List.setIfInBounds_toArray,List.set_cons_zero,List.set_cons_succ,List.getElem_toArray,List.getElem_cons_zero,List.getElem_cons_succ]
        go_wp2_with fail
        go_meet
        exact⟨b15,rfl,hn9,hs⟩
    ·(try rw[if_pos (by rfl)])
     refine op_alloc39v rfl ?_
     obtain⟨a2,ha2⟩:∃X,X=World.alloc a1 (.cells vz 39):=⟨_,rfl⟩
     obtain⟨b15,hb15⟩:∃g,g=(a1).heap.size:=⟨_,rfl⟩
     have hvl:y4.heap.size≤b15:=by rw[hb15];exact hs.size
     have hv:World.vb a2 b15 vz:=by rw[ha2,hb15];exact World.vb_new _ _
     have hb:Below (a1).heap.size (a1) a2:=by rw[ha2];exact(Below.refl _ _).alloc (Nat.le_refl _) _
     (try have hA:=hA.below hb)
     have hs:=hs.trans (hb.mono hs.size)
     rw[←ha2,←hb15]
     clear hb ha2 hb15
     refine hK.out _ _ (HS.out _ hs) ?_
     clear hK KK hHeld
     intro hHeld
     try simp only[Act.put,List.setIfInBounds_toArray,List.set_cons_zero,List.set_cons_succ]
     refine wpAnyH_ready (rs:= [5]) (by kernel_rfl) (by simp) ?_
     refine(AllReadyH.cons (o:=⟨some 64,_,_,_,_,_⟩) rfl (fun KK hK=> ?_) AllReadyH.nil)
     ·(try rw[if_pos (by rfl)])
      refine op_bsl2 rfl rfl rfl ?_
      obtain⟨a3,ha3⟩:∃X,X=World.alloc a2 (.cells (vsC [(txtV A),(numV pr)]).toArray 39):=⟨_,rfl⟩
      obtain⟨ga3,hga3⟩:∃g,g=(a2).heap.size:=⟨_,rfl⟩
      have hA:Els [(txtV A),(numV pr)] ga3 0 a3:=by rw[ha3,hga3];exact els_new _ _
      have hb:Below (a2).heap.size (a2) a3:=by rw[ha3];exact(Below.refl _ _).alloc (Nat.le_refl _) _
      rw[←ha3,←hga3]
      (try have hv:=hv.below hb hv.lt)
      have hs:=hs.trans (hb.mono hs.size)
      clear hb ha3 hga3
      refine hK.out _ _ (HS.out _ hs) ?_
      clear hK KK hHeld
      intro hHeld
      try simp only[Act.put,List.setIfInBounds_toArray,List.set_cons_zero,List.set_cons_succ]
      refine wpAnyH_ready (rs:= [6]) (by kernel_rfl) (by simp) ?_
      refine(AllReadyH.cons (o:=⟨some 65,_,_,_,_,_⟩) rfl (fun KK hK=> ?_) AllReadyH.nil)
      ·(try rw[if_pos (by rfl)])
       go_simp
       refine(HRGT.out _ _ (HB.out _ hs) hA).mono ?_
       rintro e a4 ⟨rfl,hb⟩
       (try have hv:=hv.below hb hv.lt)
       (try have hA:=hA.below hb)
       have hs:=hs.trans (hb.mono hs.size)
       clear hb
       refine hK.out _ _ (HS.out _ hs) ?_
       clear hK KK hHeld
       intro hHeld
       try simp only[Act.put,List.setIfInBounds_toArray,List.set_cons_zero,List.set_cons_succ,List.getElem_toArray,List.getElem_cons_zero,List.getElem_cons_succ]
       refine wpAnyH_ready (rs:= [8]) (by kernel_rfl) (by simp) ?_
       refine(AllReadyH.cons (o:=⟨none,_,_,_,_,_⟩) rfl (fun KK hK=> ?_) AllReadyH.nil)
       ·(try rw[if_pos (by rfl)])
        refine op_store39v rfl rfl rfl hv (by rfl) (pcs_one _) ?_
        intro a5 hn9 hg9 hz9
        have hs:=hs.grown hg9 hs.size (fun k hk=>by cases hk;exact hvl)
        refine hK.out _ _ (HS.out _ hs) ?_
        clear hK KK hHeld
        intro hHeld
        try simp only[Act.put]
        refine wpAnyH_done (by kernel_rfl) ?_ _
        try simp only[Act.put,List.setIfInBounds_toArray,List.set_cons_zero,List.set_cons_succ,List.getElem_toArray,List.getElem_cons_zero,List.getElem_cons_succ]
        go_wp2_with fail
        go_meet
        exact⟨b15,rfl,hn9,hs⟩
   ·(try rw[if_pos (by rfl)])
    refine op_alloc39v rfl ?_
    obtain⟨a1,ha1⟩:∃X,X=World.alloc y4.drew (.cells vz 39):=⟨_,rfl⟩
    obtain⟨b15,hb15⟩:∃g,g=(y4.drew).heap.size:=⟨_,rfl⟩
    have hvl:y4.heap.size≤b15:=by rw[hb15];exact hs.size
    have hv:World.vb a1 b15 vz:=by rw[ha1,hb15];exact World.vb_new _ _
    have hb:Below (y4.drew).heap.size (y4.drew) a1:=by rw[ha1];exact(Below.refl _ _).alloc (Nat.le_refl _) _
    (try have hA:=hA.below hb)
    have hs:=hs.trans (hb.mono hs.size)
    rw[←ha1,←hb15]
    clear hb ha1 hb15
    refine hK.out _ _ (HS.out _ hs) ?_
    clear hK KK hHeld
    intro hHeld
    try simp only[Act.put,List.setIfInBounds_toArray,List.set_cons_zero,List.set_cons_succ]
    refine wpAnyH_ready (rs:= [4]) (by kernel_rfl) (by simp) ?_
    refine(AllReadyH.cons (o:=⟨some 63,_,_,_,_,_⟩) rfl (fun KK hK=> ?_) AllReadyH.nil)
    ·(try rw[if_pos (by rfl)])
     go_simp
     refine(HNR0.out _).mono ?_
     rintro e a2 ⟨rfl,hb⟩
     (try have hv:=hv.below hb hv.lt)
     (try have hA:=hA.below hb)
     have hs:=hs.trans (hb.mono hs.size)
     clear hb
     refine hK.out _ _ (HS.out _ hs) ?_
     clear hK KK hHeld
     intro hHeld
     try simp only[Act.put,List.setIfInBounds_toArray,List.set_cons_zero,List.set_cons_succ,List.getElem_toArray,List.getElem_cons_zero,List.getElem_cons_succ]
     refine wpAnyH_ready (rs:= [5]) (by kernel_rfl) (by simp) ?_
     refine(AllReadyH.cons (o:=⟨some 64,_,_,_,_,_⟩) rfl (fun KK hK=> ?_) AllReadyH.nil)
     ·(try rw[if_pos (by rfl)])
      refine op_bsl2 rfl rfl rfl ?_
      obtain⟨a3,ha3⟩:∃X,X=World.alloc a2 (.cells (vsC [(txtV A),(numV pr)]).toArray 39):=⟨_,rfl⟩
      obtain⟨ga3,hga3⟩:∃g,g=(a2).heap.size:=⟨_,rfl⟩
      have hA:Els [(txtV A),(numV pr)] ga3 0 a3:=by rw[ha3,hga3];exact els_new _ _
      have hb:Below (a2).heap.size (a2) a3:=by rw[ha3];exact(Below.refl _ _).alloc (Nat.le_refl _) _
      rw[←ha3,←hga3]
      (try have hv:=hv.below hb hv.lt)
      have hs:=hs.trans (hb.mono hs.size)
      clear hb ha3 hga3
      refine hK.out _ _ (HS.out _ hs) ?_
      clear hK KK hHeld
      intro hHeld
      try simp only[Act.put,List.setIfInBounds_toArray,List.set_cons_zero,List.set_cons_succ]
      refine wpAnyH_ready (rs:= [6]) (by kernel_rfl) (by simp) ?_
      refine(AllReadyH.cons (o:=⟨some 65,_,_,_,_,_⟩) rfl (fun KK hK=> ?_) AllReadyH.nil)
      ·(try rw[if_pos (by rfl)])
       go_simp
       refine(HRGT.out _ _ (HB.out _ hs) hA).mono ?_
       rintro e a4 ⟨rfl,hb⟩
       (try have hv:=hv.below hb hv.lt)
       (try have hA:=hA.below hb)
       have hs:=hs.trans (hb.mono hs.size)
       clear hb
       refine hK.out _ _ (HS.out _ hs) ?_
       clear hK KK hHeld
       intro hHeld
       try simp only[Act.put,List.setIfInBounds_toArray,List.set_cons_zero,List.set_cons_succ,List.getElem_toArray,List.getElem_cons_zero,List.getElem_cons_succ]
       refine wpAnyH_ready (rs:= [8]) (by kernel_rfl) (by simp) ?_
       refine(AllReadyH.cons (o:=⟨none,_,_,_,_,_⟩) rfl (fun KK hK=> ?_) AllReadyH.nil)
       ·(try rw[if_pos (by rfl)])
        refine op_store39v rfl rfl rfl hv (by rfl) (pcs_one _) ?_
        intro a5 hn9 hg9 hz9
        have hs:=hs.grown hg9 hs.size (fun k hk=>by cases hk;exact hvl)
        refine hK.out _ _ (HS.out _ hs) ?_
        clear hK KK hHeld
        intro hHeld
        try simp only[Act.put]
        refine wpAnyH_done (by kernel_rfl) ?_ _
        try simp only[Act.put,List.setIfInBounds_toArray,List.set_cons_zero,List.set_cons_succ,List.getElem_toArray,List.getElem_cons_zero,List.getElem_cons_succ]
        go_wp2_with fail
        go_meet
        exact⟨b15,rfl,hn9,hs⟩
  case rest=>
   obtain⟨b15,rfl,hn,hst⟩:=hcut
   obtain⟨y5,hy5⟩:∃W,W=wc:=⟨_,rfl⟩
   subst hy5
   have HS:=Lib.hid (show ∀W,Below y5.heap.size y5 W→World.vb W b15 (pcs (txtV Rp))∧World.vb W b14 (pcs (txtV Lp))∧World.vb W b10 (pcs (numV (pnm,pne)))∧World.vb W b9 (pcs (txtV B))∧World.vb W b8 (pcs (txtV A))from fun W hW=>⟨hn.below hW hn.lt,HS.out W (hst.trans (hW.mono hst.size))⟩)
   have HB:=Lib.hid (show ∀W,Below y5.heap.size y5 W→Below w.heap.size w W from fun W hW=>HB.out W (hst.trans (hW.mono hst.size)))
   clear hn hst
   go_upto_region 13 with fail
   have hs:Below y5.heap.size y5 y5.drew:=(Below.refl _ _).drew
   refine wp_region_held_drew (S:=fun w9=>World.vb w9 b15 (pcs (txtV Rp))∧World.vb w9 b14 (pcs (txtV Lp))∧World.vb w9 b10 (pcs (numV (pnm,pne)))∧World.vb w9 b9 (pcs (txtV B))∧World.vb w9 b8 (pcs (txtV A))) (by kernel_rfl) (HS.out _ hs) (fun hHeld=> ?_)
   refine tk 0 ⟨some 66,_,_,_,_,_⟩ ?_ hHeld ?_ ?_
   rotate_left
   ·(intro w9 hSw;refine yields34 (x:= .tmp 14) (g:=b14) (cs:=pcs (txtV Lp)) ?_ ?_ rfl (hSw.2.1)<;>rfl)
   try simp only[Act.put,List.setIfInBounds_toArray,List.set_cons_zero,List.set_cons_succ]
   refine tk 1 ⟨some 67,_,_,_,_,_⟩ ?_ hHeld ?_ ?_
   rotate_left
   ·(intro w9 hSw;refine yields34 (x:= .tmp 15) (g:=b15) (cs:=pcs (txtV Rp)) ?_ ?_ rfl (hSw.1)<;>rfl)
   try simp only[Act.put,List.setIfInBounds_toArray,List.set_cons_zero,List.set_cons_succ]
   refine tk 4 ⟨some 70,_,_,_,_,_⟩ ?_ hHeld ?_ ?_
   rotate_left
   ·(intro w9 hSw;refine yields34 (x:= .tmp 8) (g:=b8) (cs:=pcs (txtV A)) ?_ ?_ rfl (hSw.2.2.2.2)<;>rfl)
   try simp only[Act.put,List.setIfInBounds_toArray,List.set_cons_zero,List.set_cons_succ]
   refine wpAnyH_ready (rs:= [2]) (by kernel_rfl) (by simp) ?_
   refine(AllReadyH.cons (o:=⟨some 68,_,_,_,_,_⟩) rfl (fun KK hK=> ?_) AllReadyH.nil)
   ·(try rw[if_pos (by rfl)])
    refine op_bsl2 rfl rfl rfl ?_
    obtain⟨c1,hc1⟩:∃X,X=World.alloc y5.drew (.cells (vsC [(txtV Lp),(txtV Rp)]).toArray 39):=⟨_,rfl⟩
    obtain⟨gc1,hgc1⟩:∃g,g=(y5.drew).heap.size:=⟨_,rfl⟩
    have hA:Els [(txtV Lp),(txtV Rp)] gc1 0 c1:=by rw[hc1,hgc1];exact els_new _ _
    have hb:Below (y5.drew).heap.size (y5.drew) c1:=by rw[hc1];exact(Below.refl _ _).alloc (Nat.le_refl _) _
    rw[←hc1,←hgc1]
    (try have hv:=hv.below hb hv.lt)
    have hs:=hs.trans (hb.mono hs.size)
    clear hb hc1 hgc1
    refine hK.out _ _ (HS.out _ hs) ?_
    clear hK KK hHeld
    intro hHeld
    try simp only[Act.put,List.setIfInBounds_toArray,List.set_cons_zero,List.set_cons_succ]
    refine wpAnyH_ready (rs:= [3]) (by kernel_rfl) (by simp) ?_
    refine(AllReadyH.cons (o:=⟨some 69,_,_,_,_,_⟩) rfl (fun KK hK=> ?_) AllReadyH.nil)
    ·(try rw[if_pos (by rfl)])
     go_simp
     refine(HCLR.out _ _ (HB.out _ hs) hA).mono ?_
     rintro e c2 ⟨rfl,hb⟩
     (try have hv:=hv.below hb hv.lt)
     (try have hA:=hA.below hb)
     have hs:=hs.trans (hb.mono hs.size)
     clear hb
     refine hK.out _ _ (HS.out _ hs) ?_
     clear hK KK hHeld
     intro hHeld
     try simp only[Act.put,List.setIfInBounds_toArray,List.set_cons_zero,List.set_cons_succ,List.getElem_toArray,List.getElem_cons_zero,List.getElem_cons_succ]
     refine wpAnyH_ready (rs:= [5]) (by kernel_rfl) (by simp) ?_
     refine(AllReadyH.cons (o:=⟨some 71,_,_,_,_,_⟩) rfl (fun KK hK=> ?_) AllReadyH.nil)
     ·(try rw[if_pos (by rfl)])
      go_simp
      refine(HSXA.out _).mono ?_
      rintro e c3 ⟨rfl,hb⟩
      (try have hv:=hv.below hb hv.lt)
      (try have hA:=hA.below hb)
      have hs:=hs.trans (hb.mono hs.size)
      clear hb
      refine hK.out _ _ (HS.out _ hs) ?_
      clear hK KK hHeld
      intro hHeld
      try simp only[Act.put,List.setIfInBounds_toArray,List.set_cons_zero,List.set_cons_succ,List.getElem_toArray,List.getElem_cons_zero,List.getElem_cons_succ]
      refine tk 6 ⟨some 72,_,_,_,_,_⟩ ?_ hHeld ?_ ?_
      rotate_left
      ·(intro w9 hSw;(try dsimp only at hSw);go_simp)
       all_goals with_reducible rfl
      try simp only[Act.put,List.setIfInBounds_toArray,List.set_cons_zero,List.set_cons_succ]
      refine tk 7 ⟨some 73,_,_,_,_,_⟩ ?_ hHeld ?_ ?_
      rotate_left
      ·(intro w9 hSw;(try dsimp only at hSw);go_simp)
       all_goals with_reducible rfl
      try simp only[Act.put,List.setIfInBounds_toArray,List.set_cons_zero,List.set_cons_succ]
      refine tk 8 ⟨some 74,_,_,_,_,_⟩ ?_ hHeld ?_ ?_
      rotate_left
      ·(intro w9 hSw;refine yields34 (x:= .tmp 8) (g:=b8) (cs:=pcs (txtV A)) ?_ ?_ rfl (hSw.2.2.2.2)<;>rfl)
      try simp only[Act.put,List.setIfInBounds_toArray,List.set_cons_zero,List.set_cons_succ]
      refine tk 10 ⟨some 76,_,_,_,_,_⟩ ?_ hHeld ?_ ?_
      rotate_left
      ·(intro w9 hSw;(try dsimp only at hSw);go_simp)
       all_goals with_reducible rfl
      try simp only[Act.put,List.setIfInBounds_toArray,List.set_cons_zero,List.set_cons_succ]
      refine tk 14 ⟨some 80,_,_,_,_,_⟩ ?_ hHeld ?_ ?_
      rotate_left
      ·(intro w9 hSw;refine yields34 (x:= .tmp 14) (g:=b14) (cs:=pcs (txtV Lp)) ?_ ?_ rfl (hSw.2.1)<;>rfl)
      try simp only[Act.put,List.setIfInBounds_toArray,List.set_cons_zero,List.set_cons_succ]
      refine wpAnyH_ready (rs:= [9]) (by kernel_rfl) (by simp) ?_
      refine(AllReadyH.cons (o:=⟨some 75,_,_,_,_,_⟩) rfl (fun KK hK=> ?_) AllReadyH.nil)
      ·(try rw[if_pos (by rfl)])
       go_simp
       refine(HN10.out _).mono ?_
       rintro e c4 ⟨rfl,hb⟩
       (try have hv:=hv.below hb hv.lt)
       (try have hA:=hA.below hb)
       have hs:=hs.trans (hb.mono hs.size)
       clear hb
       refine hK.out _ _ (HS.out _ hs) ?_
       clear hK KK hHeld
       intro hHeld
       try simp only[Act.put,List.setIfInBounds_toArray,List.set_cons_zero,List.set_cons_succ,List.getElem_toArray,List.getElem_cons_zero,List.getElem_cons_succ]
       refine wpAnyH_ready (rs:= [11]) (by kernel_rfl) (by simp) ?_
       refine(AllReadyH.cons (o:=⟨some 77,_,_,_,_,_⟩) rfl (fun KK hK=> ?_) AllReadyH.nil)
       ·(try rw[if_pos (by rfl)])
        go_simp
        refine(HNK0.out _).mono ?_
        rintro e c5 ⟨rfl,hb⟩
        (try have hv:=hv.below hb hv.lt)
        (try have hA:=hA.below hb)
        have hs:=hs.trans (hb.mono hs.size)
        clear hb
        refine hK.out _ _ (HS.out _ hs) ?_
        clear hK KK hHeld
        intro hHeld
        try simp only[Act.put,List.setIfInBounds_toArray,List.set_cons_zero,List.set_cons_succ,List.getElem_toArray,List.getElem_cons_zero,List.getElem_cons_succ]
        refine wpAnyH_ready (rs:= [12]) (by kernel_rfl) (by simp) ?_
        refine(AllReadyH.cons (o:=⟨some 78,_,_,_,_,_⟩) rfl (fun KK hK=> ?_) AllReadyH.nil)
        ·(try rw[if_pos (by rfl)])
         refine op_bsl3 rfl rfl rfl rfl ?_
         obtain⟨c6,hc6⟩:∃X,X=World.alloc c5 (.cells (vsC [(txtV A),(numV p1),(numV pk)]).toArray 39):=⟨_,rfl⟩
         obtain⟨gc6,hgc6⟩:∃g,g=(c5).heap.size:=⟨_,rfl⟩
         have hA:Els [(txtV A),(numV p1),(numV pk)] gc6 0 c6:=by rw[hc6,hgc6];exact els_new _ _
         have hb:Below (c5).heap.size (c5) c6:=by rw[hc6];exact(Below.refl _ _).alloc (Nat.le_refl _) _
         rw[←hc6,←hgc6]
         (try have hv:=hv.below hb hv.lt)
         have hs:=hs.trans (hb.mono hs.size)
         clear hb hc6 hgc6
         refine hK.out _ _ (HS.out _ hs) ?_
         clear hK KK hHeld
         intro hHeld
         try simp only[Act.put,List.setIfInBounds_toArray,List.set_cons_zero,List.set_cons_succ]
         refine wpAnyH_ready (rs:= [13]) (by kernel_rfl) (by simp) ?_
         refine(AllReadyH.cons (o:=⟨some 79,_,_,_,_,_⟩) rfl (fun KK hK=> ?_) AllReadyH.nil)
         ·(try rw[if_pos (by rfl)])
          go_simp
          refine(HMD1.out _ _ (HB.out _ hs) hA).mono ?_
          rintro e c7 ⟨rfl,hb⟩
          (try have hv:=hv.below hb hv.lt)
          (try have hA:=hA.below hb)
          have hs:=hs.trans (hb.mono hs.size)
          clear hb
          refine hK.out _ _ (HS.out _ hs) ?_
          clear hK KK hHeld
          intro hHeld
          try simp only[Act.put,List.setIfInBounds_toArray,List.set_cons_zero,List.set_cons_succ,List.getElem_toArray,List.getElem_cons_zero,List.getElem_cons_succ]
          refine wpAnyH_ready (rs:= [15]) (by kernel_rfl) (by simp) ?_
          refine(AllReadyH.cons (o:=⟨some 81,_,_,_,_,_⟩) rfl (fun KK hK=> ?_) AllReadyH.nil)
          ·(try rw[if_pos (by rfl)])
           go_simp
           refine(HSLT.out _).mono ?_
           rintro e c8 ⟨rfl,hb⟩
           (try have hv:=hv.below hb hv.lt)
           (try have hA:=hA.below hb)
           have hs:=hs.trans (hb.mono hs.size)
           clear hb
           refine hK.out _ _ (HS.out _ hs) ?_
           clear hK KK hHeld
           intro hHeld
           try simp only[Act.put,List.setIfInBounds_toArray,List.set_cons_zero,List.set_cons_succ,List.getElem_toArray,List.getElem_cons_zero,List.getElem_cons_succ]
           refine tk 16 ⟨some 82,_,_,_,_,_⟩ ?_ hHeld ?_ ?_
           rotate_left
           ·(intro w9 hSw;(try dsimp only at hSw);go_simp)
            all_goals with_reducible rfl
           try simp only[Act.put,List.setIfInBounds_toArray,List.set_cons_zero,List.set_cons_succ]
           refine tk 17 ⟨some 83,_,_,_,_,_⟩ ?_ hHeld ?_ ?_
           rotate_left
           ·(intro w9 hSw;(try dsimp only at hSw);go_simp)
            all_goals with_reducible rfl
           try simp only[Act.put,List.setIfInBounds_toArray,List.set_cons_zero,List.set_cons_succ]
           refine tk 18 ⟨some 84,_,_,_,_,_⟩ ?_ hHeld ?_ ?_
           rotate_left
           ·(intro w9 hSw;(try dsimp only at hSw);go_simp)
            all_goals with_reducible rfl
           try simp only[Act.put,List.setIfInBounds_toArray,List.set_cons_zero,List.set_cons_succ]
           refine tk 19 ⟨some 85,_,_,_,_,_⟩ ?_ hHeld ?_ ?_
           rotate_left
           ·(intro w9 hSw;refine yields34 (x:= .tmp 8) (g:=b8) (cs:=pcs (txtV A)) ?_ ?_ rfl (hSw.2.2.2.2)<;>rfl)
           try simp only[Act.put,List.setIfInBounds_toArray,List.set_cons_zero,List.set_cons_succ]
           refine tk 20 ⟨some 86,_,_,_,_,_⟩ ?_ hHeld ?_ ?_
           rotate_left
           ·(intro w9 hSw;(try dsimp only at hSw);go_simp)
            all_goals with_reducible rfl
           try simp only[Act.put,List.setIfInBounds_toArray,List.set_cons_zero,List.set_cons_succ]
           refine tk 21 ⟨some 87,_,_,_,_,_⟩ ?_ hHeld ?_ ?_
           rotate_left
           ·(intro w9 hSw;(try dsimp only at hSw);go_simp)
            all_goals with_reducible rfl
           try simp only[Act.put,List.setIfInBounds_toArray,List.set_cons_zero,List.set_cons_succ]
           refine tk 23 ⟨some 89,_,_,_,_,_⟩ ?_ hHeld ?_ ?_
           rotate_left
           ·(intro w9 hSw;(try dsimp only at hSw);go_simp)
            all_goals with_reducible rfl
           try simp only[Act.put,List.setIfInBounds_toArray,List.set_cons_zero,List.set_cons_succ]
           refine tk 27 ⟨some 93,_,_,_,_,_⟩ ?_ hHeld ?_ ?_
           rotate_left
           ·(intro w9 hSw;refine yields34 (x:= .tmp 15) (g:=b15) (cs:=pcs (txtV Rp)) ?_ ?_ rfl (hSw.1)<;>rfl)
           try simp only[Act.put,List.setIfInBounds_toArray,List.set_cons_zero,List.set_cons_succ]
           refine wpAnyH_ready (rs:= [22]) (by kernel_rfl) (by simp) ?_
           refine(AllReadyH.cons (o:=⟨some 88,_,_,_,_,_⟩) rfl (fun KK hK=> ?_) AllReadyH.nil)
           ·(try rw[if_pos (by rfl)])
            go_simp
            refine(HNK1.out _).mono ?_
            rintro e c9 ⟨rfl,hb⟩
            (try have hv:=hv.below hb hv.lt)
            (try have hA:=hA.below hb)
            have hs:=hs.trans (hb.mono hs.size)
            clear hb
            refine hK.out _ _ (HS.out _ hs) ?_
            clear hK KK hHeld
            intro hHeld
            try simp only[Act.put,List.setIfInBounds_toArray,List.set_cons_zero,List.set_cons_succ,List.getElem_toArray,List.getElem_cons_zero,List.getElem_cons_succ]
            refine wpAnyH_ready (rs:= [24]) (by kernel_rfl) (by simp) ?_
            refine(AllReadyH.cons (o:=⟨some 90,_,_,_,_,_⟩) rfl (fun KK hK=> ?_) AllReadyH.nil)
            ·(try rw[if_pos (by rfl)])
             go_simp
             refine(HNN0.out _).mono ?_
             rintro e c10 ⟨rfl,hb⟩
             (try have hv:=hv.below hb hv.lt)
             (try have hA:=hA.below hb)
             have hs:=hs.trans (hb.mono hs.size)
             clear hb
             refine hK.out _ _ (HS.out _ hs) ?_
             clear hK KK hHeld
             intro hHeld
             try simp only[Act.put,List.setIfInBounds_toArray,List.set_cons_zero,List.set_cons_succ,List.getElem_toArray,List.getElem_cons_zero,List.getElem_cons_succ]
             refine wpAnyH_ready (rs:= [25]) (by kernel_rfl) (by simp) ?_
             refine(AllReadyH.cons (o:=⟨some 91,_,_,_,_,_⟩) rfl (fun KK hK=> ?_) AllReadyH.nil)
             ·(try rw[if_pos (by rfl)])
              refine op_bsl3 rfl rfl rfl rfl ?_
              obtain⟨c11,hc11⟩:∃X,X=World.alloc c10 (.cells (vsC [(txtV A),(numV pk1),(numV (pnm,pne))]).toArray 39):=⟨_,rfl⟩
              obtain⟨gc11,hgc11⟩:∃g,g=(c10).heap.size:=⟨_,rfl⟩
              have hA:Els [(txtV A),(numV pk1),(numV (pnm,pne))] gc11 0 c11:=by rw[hc11,hgc11];exact els_new _ _
              have hb:Below (c10).heap.size (c10) c11:=by rw[hc11];exact(Below.refl _ _).alloc (Nat.le_refl _) _
              rw[←hc11,←hgc11]
              (try have hv:=hv.below hb hv.lt)
              have hs:=hs.trans (hb.mono hs.size)
              clear hb hc11 hgc11
              refine hK.out _ _ (HS.out _ hs) ?_
              clear hK KK hHeld
              intro hHeld
              try simp only[Act.put,List.setIfInBounds_toArray,List.set_cons_zero,List.set_cons_succ]
              refine wpAnyH_ready (rs:= [26]) (by kernel_rfl) (by simp) ?_
              refine(AllReadyH.cons (o:=⟨some 92,_,_,_,_,_⟩) rfl (fun KK hK=> ?_) AllReadyH.nil)
              ·(try rw[if_pos (by rfl)])
               go_simp
               refine(HMD2.out _ _ (HB.out _ hs) hA).mono ?_
               rintro e c12 ⟨rfl,hb⟩
               (try have hv:=hv.below hb hv.lt)
               (try have hA:=hA.below hb)
               have hs:=hs.trans (hb.mono hs.size)
               clear hb
               refine hK.out _ _ (HS.out _ hs) ?_
               clear hK KK hHeld
               intro hHeld
               try simp only[Act.put,List.setIfInBounds_toArray,List.set_cons_zero,List.set_cons_succ,List.getElem_toArray,List.getElem_cons_zero,List.getElem_cons_succ]
               refine wpAnyH_ready (rs:= [28]) (by kernel_rfl) (by simp) ?_
               refine(AllReadyH.cons (o:=⟨some 94,_,_,_,_,_⟩) rfl (fun KK hK=> ?_) AllReadyH.nil)
               ·(try rw[if_pos (by rfl)])
                go_simp
                refine(HSRT.out _).mono ?_
                rintro e c13 ⟨rfl,hb⟩
                (try have hv:=hv.below hb hv.lt)
                (try have hA:=hA.below hb)
                have hs:=hs.trans (hb.mono hs.size)
                clear hb
                refine hK.out _ _ (HS.out _ hs) ?_
                clear hK KK hHeld
                intro hHeld
                try simp only[Act.put,List.setIfInBounds_toArray,List.set_cons_zero,List.set_cons_succ,List.getElem_toArray,List.getElem_cons_zero,List.getElem_cons_succ]
                refine tk 29 ⟨some 95,_,_,_,_,_⟩ ?_ hHeld ?_ ?_
                rotate_left
                ·(intro w9 hSw;(try dsimp only at hSw);go_simp)
                 all_goals with_reducible rfl
                try simp only[Act.put,List.setIfInBounds_toArray,List.set_cons_zero,List.set_cons_succ]
                refine tk 30 ⟨some 96,_,_,_,_,_⟩ ?_ hHeld ?_ ?_
                rotate_left
                ·(intro w9 hSw;(try dsimp only at hSw);go_simp)
                 all_goals with_reducible rfl
                try simp only[Act.put,List.setIfInBounds_toArray,List.set_cons_zero,List.set_cons_succ]
                refine wpAnyH_done (by kernel_rfl) ?_ _
                try simp only[Act.put,List.setIfInBounds_toArray,List.set_cons_zero,List.set_cons_succ,List.getElem_toArray,List.getElem_cons_zero,List.getElem_cons_succ]
                have HS:=Lib.hid (show ∀W,Below c13.heap.size c13 W→World.vb W b15 (pcs (txtV Rp))∧World.vb W b14 (pcs (txtV Lp))∧World.vb W b10 (pcs (numV (pnm,pne)))∧World.vb W b9 (pcs (txtV B))∧World.vb W b8 (pcs (txtV A))from fun W hW=>HS.out W (hs.trans (hW.mono hs.size)))
                have HB:=Lib.hid (show ∀W,Below c13.heap.size c13 W→Below w.heap.size w W from fun W hW=>HB.out W (hs.trans (hW.mono hs.size)))
                clear hs
                go_upto_region 15 with fail
                have hs:Below c13.heap.size c13 c13:=Below.refl _ _
                go_upto_region 16 with (first|refine wpList_load34 rfl rfl rfl ((HS.out _ hs).2.2.2.2) (by rfl) ?_|refine wpList_load34 rfl rfl rfl ((HS.out _ hs).2.2.2.1) (by rfl) ?_|(refine wpList_bsl2 rfl rfl rfl rfl ?_;have hA:Els [(txtV A),(txtV B)] _ 0 _:=els_new _ c13;have hs:=hs.alloc hs.size (.cells (vsC [(txtV A),(txtV B)]).toArray 39))|(go_at_call 20;refine(HCAB.out _ _ (HB.out _ hs) hA).mono ?_;rintro e y6c0 ⟨rfl,hb⟩;have hs:=hs.trans (hb.mono hs.size))|refine wpList_alloc34 rfl rfl ?_|(refine wpList_store34 rfl rfl rfl rfl (World.vb_new' _ _ _ (by simp)) (by rfl) (pcs_one _) ?_;intro y6 hn hg hz))
                go_simp
                have hst:Below c13.heap.size c13 y6:=(hs.alloc hs.size (.cells vz 39)).grown hg (by have:=hs.size;simp at this ⊢;omega) (fun k hk=>by cases hk;have:=hs.size;simp at this ⊢;omega)
                obtain⟨b16,hb16,hn⟩:∃b,b=_∧World.vb y6 b (pcs (txtV C)):=⟨_,rfl,hn⟩
                rw[←hb16]
                have HS:=Lib.hid (show ∀W,Below y6.heap.size y6 W→World.vb W b16 (pcs (txtV C))∧World.vb W b15 (pcs (txtV Rp))∧World.vb W b14 (pcs (txtV Lp))∧World.vb W b10 (pcs (numV (pnm,pne)))∧World.vb W b9 (pcs (txtV B))∧World.vb W b8 (pcs (txtV A))from fun W hW=>⟨hn.below hW hn.lt,HS.out W (hst.trans (hW.mono hst.size))⟩)
                have HB:=Lib.hid (show ∀W,Below y6.heap.size y6 W→Below w.heap.size w W from fun W hW=>HB.out W (hst.trans (hW.mono hst.size)))
                clear hn hst
                clear hg hz hs hb16
                (try clear hA)
                (try clear hb)
                have hs:Below y6.heap.size y6 y6:=Below.refl _ _
                go_upto_region 17 with (first|refine wpList_load34 rfl rfl rfl ((HS.out _ hs).2.2.2.2.1) (by rfl) ?_|refine wpList_load34 rfl rfl rfl ((HS.out _ hs).1) (by rfl) ?_|(refine wpList_bsl2 rfl rfl rfl rfl ?_;have hA:Els [(txtV B),(txtV C)] _ 0 _:=els_new _ y6;have hs:=hs.alloc hs.size (.cells (vsC [(txtV B),(txtV C)]).toArray 39))|(go_at_call 20;refine(HFND.out _ _ (HB.out _ hs) hA).mono ?_;rintro e y7c0 ⟨rfl,hb⟩;have hs:=hs.trans (hb.mono hs.size))|refine wpList_alloc34 rfl rfl ?_|(refine wpList_store34 rfl rfl rfl rfl (World.vb_new' _ _ _ (by simp)) (by rfl) (pcs_one _) ?_;intro y7 hn hg hz))
                go_simp
                have hst:Below y6.heap.size y6 y7:=(hs.alloc hs.size (.cells vz 39)).grown hg (by have:=hs.size;simp at this ⊢;omega) (fun k hk=>by cases hk;have:=hs.size;simp at this ⊢;omega)
                obtain⟨b17,hb17,hn⟩:∃b,b=_∧World.vb y7 b (pcs (numV pp)):=⟨_,rfl,hn⟩
                rw[←hb17]
                have HS:=Lib.hid (show ∀W,Below y7.heap.size y7 W→World.vb W b17 (pcs (numV pp))∧World.vb W b16 (pcs (txtV C))∧World.vb W b15 (pcs (txtV Rp))∧World.vb W b14 (pcs (txtV Lp))∧World.vb W b10 (pcs (numV (pnm,pne)))∧World.vb W b9 (pcs (txtV B))∧World.vb W b8 (pcs (txtV A))from fun W hW=>⟨hn.below hW hn.lt,HS.out W (hst.trans (hW.mono hst.size))⟩)
                have HB:=Lib.hid (show ∀W,Below y7.heap.size y7 W→Below w.heap.size w W from fun W hW=>HB.out W (hst.trans (hW.mono hst.size)))
                clear hn hst
                clear hg hz hs hb17
                (try clear hA)
                (try clear hb)
                have hs:Below y7.heap.size y7 y7:=Below.refl _ _
                go_upto_region 18 with (first|refine wpList_load34 rfl rfl rfl ((HS.out _ hs).2.2.2.2.2.1) (by rfl) ?_|(refine wpList_bsl1 rfl rfl rfl ?_;have hA:Els [(txtV B)] _ 0 _:=els_new _ y7;have hs:=hs.alloc hs.size (.cells (vsC [(txtV B)]).toArray 39))|(go_at_call 20;refine(HLEB.out _ _ (HB.out _ hs) hA).mono ?_;rintro e y8c0 ⟨rfl,hb⟩;have hs:=hs.trans (hb.mono hs.size))|refine wpList_alloc34 rfl rfl ?_|(refine wpList_store34 rfl rfl rfl rfl (World.vb_new' _ _ _ (by simp)) (by rfl) (pcs_one _) ?_;intro y8 hn hg hz))
                go_simp
                have hst:Below y7.heap.size y7 y8:=(hs.alloc hs.size (.cells vz 39)).grown hg (by have:=hs.size;simp at this ⊢;omega) (fun k hk=>by cases hk;have:=hs.size;simp at this ⊢;omega)
                obtain⟨b18,hb18,hn⟩:∃b,b=_∧World.vb y8 b (pcs (numV pm)):=⟨_,rfl,hn⟩
                rw[←hb18]
                have HS:=Lib.hid (show ∀W,Below y8.heap.size y8 W→World.vb W b18 (pcs (numV pm))∧World.vb W b17 (pcs (numV pp))∧World.vb W b16 (pcs (txtV C))∧World.vb W b15 (pcs (txtV Rp))∧World.vb W b14 (pcs (txtV Lp))∧World.vb W b10 (pcs (numV (pnm,pne)))∧World.vb W b9 (pcs (txtV B))∧World.vb W b8 (pcs (txtV A))from fun W hW=>⟨hn.below hW hn.lt,HS.out W (hst.trans (hW.mono hst.size))⟩)
                have HB:=Lib.hid (show ∀W,Below y8.heap.size y8 W→Below w.heap.size w W from fun W hW=>HB.out W (hst.trans (hW.mono hst.size)))
                clear hn hst
                clear hg hz hs hb18
                (try clear hA)
                (try clear hb)
                go_upto_region 18 with fail
                have hs:Below y8.heap.size y8 y8.drew:=(Below.refl _ _).drew
                refine wp_region_held_drew (S:=fun w9=>World.vb w9 b18 (pcs (numV pm))∧World.vb w9 b17 (pcs (numV pp))∧World.vb w9 b16 (pcs (txtV C))∧World.vb w9 b15 (pcs (txtV Rp))∧World.vb w9 b14 (pcs (txtV Lp))∧World.vb w9 b10 (pcs (numV (pnm,pne)))∧World.vb w9 b9 (pcs (txtV B))∧World.vb w9 b8 (pcs (txtV A))) (by kernel_rfl) (HS.out _ hs) (fun hHeld=> ?_)
                refine tk 0 ⟨some 108,_,_,_,_,_⟩ ?_ hHeld ?_ ?_
                rotate_left
                ·(intro w9 hSw;refine yields34 (x:= .tmp 16) (g:=b16) (cs:=pcs (txtV C)) ?_ ?_ rfl (hSw.2.2.1)<;>rfl)
                try simp only[Act.put,List.setIfInBounds_toArray,List.set_cons_zero,List.set_cons_succ]
                refine tk 1 ⟨some 109,_,_,_,_,_⟩ ?_ hHeld ?_ ?_
                rotate_left
                ·(intro w9 hSw;refine yields34 (x:= .tmp 17) (g:=b17) (cs:=pcs (numV pp)) ?_ ?_ rfl (hSw.2.1)<;>rfl)
                try simp only[Act.put,List.setIfInBounds_toArray,List.set_cons_zero,List.set_cons_succ]
                refine tk 2 ⟨some 110,_,_,_,_,_⟩ ?_ hHeld ?_ ?_
                rotate_left
                ·(intro w9 hSw;refine yields34 (x:= .tmp 18) (g:=b18) (cs:=pcs (numV pm)) ?_ ?_ rfl (hSw.1)<;>rfl)
                try simp only[Act.put,List.setIfInBounds_toArray,List.set_cons_zero,List.set_cons_succ]
                refine tk 5 ⟨some 113,_,_,_,_,_⟩ ?_ hHeld ?_ ?_
                rotate_left
                ·(intro w9 hSw;refine yields34 (x:= .tmp 9) (g:=b9) (cs:=pcs (txtV B)) ?_ ?_ rfl (hSw.2.2.2.2.2.2.1)<;>rfl)
                try simp only[Act.put,List.setIfInBounds_toArray,List.set_cons_zero,List.set_cons_succ]
                refine wpAnyH_ready (rs:= [3]) (by kernel_rfl) (by simp) ?_
                refine(AllReadyH.cons (o:=⟨some 111,_,_,_,_,_⟩) rfl (fun KK hK=> ?_) AllReadyH.nil)
                ·(try rw[if_pos (by rfl)])
                 refine op_bsl3 rfl rfl rfl rfl ?_
                 obtain⟨d1,hd1⟩:∃X,X=World.alloc y8.drew (.cells (vsC [(txtV C),(numV pp),(numV pm)]).toArray 39):=⟨_,rfl⟩
                 obtain⟨gd1,hgd1⟩:∃g,g=(y8.drew).heap.size:=⟨_,rfl⟩
                 have hA:Els [(txtV C),(numV pp),(numV pm)] gd1 0 d1:=by rw[hd1,hgd1];exact els_new _ _
                 have hb:Below (y8.drew).heap.size (y8.drew) d1:=by rw[hd1];exact(Below.refl _ _).alloc (Nat.le_refl _) _
                 rw[←hd1,←hgd1]
                 (try have hv:=hv.below hb hv.lt)
                 have hs:=hs.trans (hb.mono hs.size)
                 clear hb hd1 hgd1
                 refine hK.out _ _ (HS.out _ hs) ?_
                 clear hK KK hHeld
                 intro hHeld
                 try simp only[Act.put,List.setIfInBounds_toArray,List.set_cons_zero,List.set_cons_succ]
                 refine wpAnyH_ready (rs:= [4]) (by kernel_rfl) (by simp) ?_
                 refine(AllReadyH.cons (o:=⟨some 112,_,_,_,_,_⟩) rfl (fun KK hK=> ?_) AllReadyH.nil)
                 ·(try rw[if_pos (by rfl)])
                  go_simp
                  refine(HMD3.out _ _ (HB.out _ hs) hA).mono ?_
                  rintro e d2 ⟨rfl,hb⟩
                  (try have hv:=hv.below hb hv.lt)
                  (try have hA:=hA.below hb)
                  have hs:=hs.trans (hb.mono hs.size)
                  clear hb
                  refine hK.out _ _ (HS.out _ hs) ?_
                  clear hK KK hHeld
                  intro hHeld
                  try simp only[Act.put,List.setIfInBounds_toArray,List.set_cons_zero,List.set_cons_succ,List.getElem_toArray,List.getElem_cons_zero,List.getElem_cons_succ]
                  refine wpAnyH_ready (rs:= [6]) (by kernel_rfl) (by simp) ?_
                  refine(AllReadyH.cons (o:=⟨some 114,_,_,_,_,_⟩) rfl (fun KK hK=> ?_) AllReadyH.nil)
                  ·(try rw[if_pos (by rfl)])
                   go_simp
                   refine(HSXB.out _).mono ?_
                   rintro e d3 ⟨rfl,hb⟩
                   (try have hv:=hv.below hb hv.lt)
                   (try have hA:=hA.below hb)
                   have hs:=hs.trans (hb.mono hs.size)
                   clear hb
                   refine hK.out _ _ (HS.out _ hs) ?_
                   clear hK KK hHeld
                   intro hHeld
                   try simp only[Act.put,List.setIfInBounds_toArray,List.set_cons_zero,List.set_cons_succ,List.getElem_toArray,List.getElem_cons_zero,List.getElem_cons_succ]
                   refine tk 7 ⟨some 115,_,_,_,_,_⟩ ?_ hHeld ?_ ?_
                   rotate_left
                   ·(intro w9 hSw;(try dsimp only at hSw);go_simp)
                    all_goals with_reducible rfl
                   try simp only[Act.put,List.setIfInBounds_toArray,List.set_cons_zero,List.set_cons_succ]
                   refine tk 8 ⟨some 116,_,_,_,_,_⟩ ?_ hHeld ?_ ?_
                   rotate_left
                   ·(intro w9 hSw;(try dsimp only at hSw);go_simp)
                    all_goals with_reducible rfl
                   try simp only[Act.put,List.setIfInBounds_toArray,List.set_cons_zero,List.set_cons_succ]
                   refine tk 9 ⟨some 117,_,_,_,_,_⟩ ?_ hHeld ?_ ?_
                   rotate_left
                   ·(intro w9 hSw;refine yields34 (x:= .tmp 17) (g:=b17) (cs:=pcs (numV pp)) ?_ ?_ rfl (hSw.2.1)<;>rfl)
                   try simp only[Act.put,List.setIfInBounds_toArray,List.set_cons_zero,List.set_cons_succ]
                   refine tk 10 ⟨some 118,_,_,_,_,_⟩ ?_ hHeld ?_ ?_
                   rotate_left
                   ·(intro w9 hSw;(try dsimp only at hSw);go_simp)
                    all_goals with_reducible rfl
                   try simp only[Act.put,List.setIfInBounds_toArray,List.set_cons_zero,List.set_cons_succ]
                   refine tk 11 ⟨some 119,_,_,_,_,_⟩ ?_ hHeld ?_ ?_
                   rotate_left
                   ·(intro w9 hSw;(try dsimp only at hSw);go_simp)
                    all_goals with_reducible rfl
                   try simp only[Act.put,List.setIfInBounds_toArray,List.set_cons_zero,List.set_cons_succ]
                   refine wpAnyH_ready (rs:= [12]) (by kernel_rfl) (by simp) ?_
                   refine(AllReadyH.cons (o:=⟨some 120,_,_,_,_,_⟩) rfl (fun KK hK=> ?_) AllReadyH.nil)
                   ·(try rw[if_pos (by rfl)])
                    go_simp
                    refine(HNN1.out _).mono ?_
                    rintro e d4 ⟨rfl,hb⟩
                    (try have hv:=hv.below hb hv.lt)
                    (try have hA:=hA.below hb)
                    have hs:=hs.trans (hb.mono hs.size)
                    clear hb
                    refine hK.out _ _ (HS.out _ hs) ?_
                    clear hK KK hHeld
                    intro hHeld
                    try simp only[Act.put,List.setIfInBounds_toArray,List.set_cons_zero,List.set_cons_succ,List.getElem_toArray,List.getElem_cons_zero,List.getElem_cons_succ]
                    refine wpAnyH_ready (rs:= [13]) (by kernel_rfl) (by simp) ?_
                    refine(AllReadyH.cons (o:=⟨some 121,_,_,_,_,_⟩) rfl (fun KK hK=> ?_) AllReadyH.nil)
                    ·(try rw[if_pos (by rfl)])
                     go_simp
                     refine(HCM.out _ (HB.out _ hs)).mono ?_
                     rintro e d5 ⟨rfl,hb⟩
                     (try have hv:=hv.below hb hv.lt)
                     (try have hA:=hA.below hb)
                     have hs:=hs.trans (hb.mono hs.size)
                     clear hb
                     refine hK.out _ _ (HS.out _ hs) ?_
                     clear hK KK hHeld
                     intro hHeld
                     try simp only[Act.put,List.setIfInBounds_toArray,List.set_cons_zero,List.set_cons_succ,List.getElem_toArray,List.getElem_cons_zero,List.getElem_cons_succ]
                     refine tk 14 ⟨some 122,_,_,_,_,_⟩ ?_ hHeld ?_ ?_
                     rotate_left
                     ·(intro w9 hSw;(try dsimp only at hSw);go_simp)
                      all_goals with_reducible rfl
                     try simp only[Act.put,List.setIfInBounds_toArray,List.set_cons_zero,List.set_cons_succ]
                     refine tk 15 ⟨some 123,_,_,_,_,_⟩ ?_ hHeld ?_ ?_
                     rotate_left
                     ·(intro w9 hSw;(try dsimp only at hSw);go_simp)
                      all_goals with_reducible rfl
                     try simp only[Act.put,List.setIfInBounds_toArray,List.set_cons_zero,List.set_cons_succ]
                     refine wpAnyH_done (by kernel_rfl) ?_ _
                     try simp only[Act.put,List.setIfInBounds_toArray,List.set_cons_zero,List.set_cons_succ,List.getElem_toArray,List.getElem_cons_zero,List.getElem_cons_succ]
                     have HS:=Lib.hid (show ∀W,Below d5.heap.size d5 W→World.vb W b18 (pcs (numV pm))∧World.vb W b17 (pcs (numV pp))∧World.vb W b16 (pcs (txtV C))∧World.vb W b15 (pcs (txtV Rp))∧World.vb W b14 (pcs (txtV Lp))∧World.vb W b10 (pcs (numV (pnm,pne)))∧World.vb W b9 (pcs (txtV B))∧World.vb W b8 (pcs (txtV A))from fun W hW=>HS.out W (hs.trans (hW.mono hs.size)))
                     have HB:=Lib.hid (show ∀W,Below d5.heap.size d5 W→Below w.heap.size w W from fun W hW=>HB.out W (hs.trans (hW.mono hs.size)))
                     clear hs
                     go_upto_region 20 with fail
                     have hs:Below d5.heap.size d5 d5:=Below.refl _ _
                     go_upto_region 21 with (first|refine wpList_load34 rfl rfl rfl ((HS.out _ hs).2.2.2.2.2.2.2) (by rfl) ?_|(refine wpList_bsl1 rfl rfl rfl ?_;have hA:Els [(txtV A)] _ 0 _:=els_new _ d5;have hs:=hs.alloc hs.size (.cells (vsC [(txtV A)]).toArray 39))|(go_at_call 20;refine(HUPA.out _ _ (HB.out _ hs) hA).mono ?_;rintro e y9c0 ⟨rfl,hb⟩;have hs:=hs.trans (hb.mono hs.size))|refine wpList_alloc34 rfl rfl ?_|(refine wpList_store34 rfl rfl rfl rfl (World.vb_new' _ _ _ (by simp)) (by rfl) (pcs_one _) ?_;intro y9 hn hg hz))
                     go_simp
                     have hst:Below d5.heap.size d5 y9:=(hs.alloc hs.size (.cells vz 39)).grown hg (by have:=hs.size;simp at this ⊢;omega) (fun k hk=>by cases hk;have:=hs.size;simp at this ⊢;omega)
                     obtain⟨b19,hb19,hn⟩:∃b,b=_∧World.vb y9 b (pcs (txtV Up)):=⟨_,rfl,hn⟩
                     rw[←hb19]
                     have HS:=Lib.hid (show ∀W,Below y9.heap.size y9 W→World.vb W b19 (pcs (txtV Up))∧World.vb W b18 (pcs (numV pm))∧World.vb W b17 (pcs (numV pp))∧World.vb W b16 (pcs (txtV C))∧World.vb W b15 (pcs (txtV Rp))∧World.vb W b14 (pcs (txtV Lp))∧World.vb W b10 (pcs (numV (pnm,pne)))∧World.vb W b9 (pcs (txtV B))∧World.vb W b8 (pcs (txtV A))from fun W hW=>⟨hn.below hW hn.lt,HS.out W (hst.trans (hW.mono hst.size))⟩)
                     have HB:=Lib.hid (show ∀W,Below y9.heap.size y9 W→Below w.heap.size w W from fun W hW=>HB.out W (hst.trans (hW.mono hst.size)))
                     clear hn hst
                     clear hg hz hs hb19
                     (try clear hA)
                     (try clear hb)
                     go_upto_region 21 with fail
                     have hs:Below y9.heap.size y9 y9.drew:=(Below.refl _ _).drew
                     refine wp_region_held_drew (S:=fun w9=>World.vb w9 b19 (pcs (txtV Up))∧World.vb w9 b18 (pcs (numV pm))∧World.vb w9 b17 (pcs (numV pp))∧World.vb w9 b16 (pcs (txtV C))∧World.vb w9 b15 (pcs (txtV Rp))∧World.vb w9 b14 (pcs (txtV Lp))∧World.vb w9 b10 (pcs (numV (pnm,pne)))∧World.vb w9 b9 (pcs (txtV B))∧World.vb w9 b8 (pcs (txtV A))) (by kernel_rfl) (HS.out _ hs) (fun hHeld=> ?_)
                     refine tk 0 ⟨some 127,_,_,_,_,_⟩ ?_ hHeld ?_ ?_
                     rotate_left
                     ·(intro w9 hSw;(try dsimp only at hSw);go_simp)
                      all_goals with_reducible rfl
                     try simp only[Act.put,List.setIfInBounds_toArray,List.set_cons_zero,List.set_cons_succ]
                     refine tk 1 ⟨some 128,_,_,_,_,_⟩ ?_ hHeld ?_ ?_
                     rotate_left
                     ·(intro w9 hSw;(try dsimp only at hSw);go_simp)
                      all_goals with_reducible rfl
                     try simp only[Act.put,List.setIfInBounds_toArray,List.set_cons_zero,List.set_cons_succ]
                     refine tk 2 ⟨some 129,_,_,_,_,_⟩ ?_ hHeld ?_ ?_
                     rotate_left
                     ·(intro w9 hSw;refine yields34 (x:= .tmp 8) (g:=b8) (cs:=pcs (txtV A)) ?_ ?_ rfl (hSw.2.2.2.2.2.2.2.2)<;>rfl)
                     try simp only[Act.put,List.setIfInBounds_toArray,List.set_cons_zero,List.set_cons_succ]
                     refine tk 7 ⟨some 134,_,_,_,_,_⟩ ?_ hHeld ?_ ?_
                     rotate_left
                     ·(intro w9 hSw;refine yields34 (x:= .tmp 19) (g:=b19) (cs:=pcs (txtV Up)) ?_ ?_ rfl (hSw.1)<;>rfl)
                     try simp only[Act.put,List.setIfInBounds_toArray,List.set_cons_zero,List.set_cons_succ]
                     refine wpAnyH_ready (rs:= [3]) (by kernel_rfl) (by simp) ?_
                     refine(AllReadyH.cons (o:=⟨some 130,_,_,_,_,_⟩) rfl (fun KK hK=> ?_) AllReadyH.nil)
                     ·(try rw[if_pos (by rfl)])
                      refine op_bsl1 rfl rfl ?_
                      obtain⟨z1,hz1⟩:∃X,X=World.alloc y9.drew (.cells (vsC [(txtV A)]).toArray 39):=⟨_,rfl⟩
                      obtain⟨gz1,hgz1⟩:∃g,g=(y9.drew).heap.size:=⟨_,rfl⟩
                      have hA:Els [(txtV A)] gz1 0 z1:=by rw[hz1,hgz1];exact els_new _ _
                      have hb:Below (y9.drew).heap.size (y9.drew) z1:=by rw[hz1];exact(Below.refl _ _).alloc (Nat.le_refl _) _
                      rw[←hz1,←hgz1]
                      (try have hv:=hv.below hb hv.lt)
                      have hs:=hs.trans (hb.mono hs.size)
                      clear hb hz1 hgz1
                      refine hK.out _ _ (HS.out _ hs) ?_
                      clear hK KK hHeld
                      intro hHeld
                      try simp only[Act.put,List.setIfInBounds_toArray,List.set_cons_zero,List.set_cons_succ]
                      refine wpAnyH_ready (rs:= [4]) (by kernel_rfl) (by simp) ?_
                      refine(AllReadyH.cons (o:=⟨some 131,_,_,_,_,_⟩) rfl (fun KK hK=> ?_) AllReadyH.nil)
                      ·(try rw[if_pos (by rfl)])
                       go_simp
                       refine(HLOW.out _ _ (HB.out _ hs) hA).mono ?_
                       rintro e z2 ⟨rfl,hb⟩
                       (try have hv:=hv.below hb hv.lt)
                       (try have hA:=hA.below hb)
                       have hs:=hs.trans (hb.mono hs.size)
                       clear hb
                       refine hK.out _ _ (HS.out _ hs) ?_
                       clear hK KK hHeld
                       intro hHeld
                       try simp only[Act.put,List.setIfInBounds_toArray,List.set_cons_zero,List.set_cons_succ,List.getElem_toArray,List.getElem_cons_zero,List.getElem_cons_succ]
                       refine wpAnyH_ready (rs:= [5]) (by kernel_rfl) (by simp) ?_
                       refine(AllReadyH.cons (o:=⟨some 132,_,_,_,_,_⟩) rfl (fun KK hK=> ?_) AllReadyH.nil)
                       ·(try rw[if_pos (by rfl)])
                        refine op_bsl1 rfl rfl ?_
                        obtain⟨z3,hz3⟩:∃X,X=World.alloc z2 (.cells (vsC [(txtV Lo)]).toArray 39):=⟨_,rfl⟩
                        obtain⟨gz3,hgz3⟩:∃g,g=(z2).heap.size:=⟨_,rfl⟩
                        have hA:Els [(txtV Lo)] gz3 0 z3:=by rw[hz3,hgz3];exact els_new _ _
                        have hb:Below (z2).heap.size (z2) z3:=by rw[hz3];exact(Below.refl _ _).alloc (Nat.le_refl _) _
                        rw[←hz3,←hgz3]
                        (try have hv:=hv.below hb hv.lt)
                        have hs:=hs.trans (hb.mono hs.size)
                        clear hb hz3 hgz3
                        refine hK.out _ _ (HS.out _ hs) ?_
                        clear hK KK hHeld
                        intro hHeld
                        try simp only[Act.put,List.setIfInBounds_toArray,List.set_cons_zero,List.set_cons_succ]
                        refine wpAnyH_ready (rs:= [6]) (by kernel_rfl) (by simp) ?_
                        refine(AllReadyH.cons (o:=⟨some 133,_,_,_,_,_⟩) rfl (fun KK hK=> ?_) AllReadyH.nil)
                        ·(try rw[if_pos (by rfl)])
                         go_simp
                         refine(HUPW.out _ _ (HB.out _ hs) hA).mono ?_
                         rintro e z4 ⟨rfl,hb⟩
                         (try have hv:=hv.below hb hv.lt)
                         (try have hA:=hA.below hb)
                         have hs:=hs.trans (hb.mono hs.size)
                         clear hb
                         refine hK.out _ _ (HS.out _ hs) ?_
                         clear hK KK hHeld
                         intro hHeld
                         try simp only[Act.put,List.setIfInBounds_toArray,List.set_cons_zero,List.set_cons_succ,List.getElem_toArray,List.getElem_cons_zero,List.getElem_cons_succ]
                         refine wpAnyH_ready (rs:= [8]) (by kernel_rfl) (by simp) ?_
                         refine(AllReadyH.cons (o:=⟨some 135,_,_,_,_,_⟩) rfl (fun KK hK=> ?_) AllReadyH.nil)
                         ·(try rw[if_pos (by rfl)])
                          go_simp
                          refine(HSUU.out _).mono ?_
                          rintro e z5 ⟨rfl,hb⟩
                          (try have hv:=hv.below hb hv.lt)
                          (try have hA:=hA.below hb)
                          have hs:=hs.trans (hb.mono hs.size)
                          clear hb
                          refine hK.out _ _ (HS.out _ hs) ?_
                          clear hK KK hHeld
                          intro hHeld
                          try simp only[Act.put,List.setIfInBounds_toArray,List.set_cons_zero,List.set_cons_succ,List.getElem_toArray,List.getElem_cons_zero,List.getElem_cons_succ]
                          refine tk 9 ⟨some 136,_,_,_,_,_⟩ ?_ hHeld ?_ ?_
                          rotate_left
                          ·(intro w9 hSw;(try dsimp only at hSw);go_simp)
                           all_goals with_reducible rfl
                          try simp only[Act.put,List.setIfInBounds_toArray,List.set_cons_zero,List.set_cons_succ]
                          refine tk 10 ⟨some 137,_,_,_,_,_⟩ ?_ hHeld ?_ ?_
                          rotate_left
                          ·(intro w9 hSw;(try dsimp only at hSw);go_simp)
                           all_goals with_reducible rfl
                          try simp only[Act.put,List.setIfInBounds_toArray,List.set_cons_zero,List.set_cons_succ]
                          refine tk 11 ⟨some 138,_,_,_,_,_⟩ ?_ hHeld ?_ ?_
                          rotate_left
                          ·(intro w9 hSw;refine yields34 (x:= .tmp 19) (g:=b19) (cs:=pcs (txtV Up)) ?_ ?_ rfl (hSw.1)<;>rfl)
                          try simp only[Act.put,List.setIfInBounds_toArray,List.set_cons_zero,List.set_cons_succ]
                          refine tk 14 ⟨some 141,_,_,_,_,_⟩ ?_ hHeld ?_ ?_
                          rotate_left
                          ·(intro w9 hSw;refine yields34 (x:= .tmp 10) (g:=b10) (cs:=pcs (numV (pnm,pne))) ?_ ?_ rfl (hSw.2.2.2.2.2.2.1)<;>rfl)
                          try simp only[Act.put,List.setIfInBounds_toArray,List.set_cons_zero,List.set_cons_succ]
                          refine wpAnyH_ready (rs:= [12]) (by kernel_rfl) (by simp) ?_
                          refine(AllReadyH.cons (o:=⟨some 139,_,_,_,_,_⟩) rfl (fun KK hK=> ?_) AllReadyH.nil)
                          ·(try rw[if_pos (by rfl)])
                           refine op_bsl1 rfl rfl ?_
                           obtain⟨z6,hz6⟩:∃X,X=World.alloc z5 (.cells (vsC [(txtV Up)]).toArray 39):=⟨_,rfl⟩
                           obtain⟨gz6,hgz6⟩:∃g,g=(z5).heap.size:=⟨_,rfl⟩
                           have hA:Els [(txtV Up)] gz6 0 z6:=by rw[hz6,hgz6];exact els_new _ _
                           have hb:Below (z5).heap.size (z5) z6:=by rw[hz6];exact(Below.refl _ _).alloc (Nat.le_refl _) _
                           rw[←hz6,←hgz6]
                           (try have hv:=hv.below hb hv.lt)
                           have hs:=hs.trans (hb.mono hs.size)
                           clear hb hz6 hgz6
                           refine hK.out _ _ (HS.out _ hs) ?_
                           clear hK KK hHeld
                           intro hHeld
                           try simp only[Act.put,List.setIfInBounds_toArray,List.set_cons_zero,List.set_cons_succ]
                           refine wpAnyH_ready (rs:= [13]) (by kernel_rfl) (by simp) ?_
                           refine(AllReadyH.cons (o:=⟨some 140,_,_,_,_,_⟩) rfl (fun KK hK=> ?_) AllReadyH.nil)
                           ·(try rw[if_pos (by rfl)])
                            go_simp
                            refine(HLEU.out _ _ (HB.out _ hs) hA).mono ?_
                            rintro e z7 ⟨rfl,hb⟩
                            (try have hv:=hv.below hb hv.lt)
                            (try have hA:=hA.below hb)
                            have hs:=hs.trans (hb.mono hs.size)
                            clear hb
                            refine hK.out _ _ (HS.out _ hs) ?_
                            clear hK KK hHeld
                            intro hHeld
                            try simp only[Act.put,List.setIfInBounds_toArray,List.set_cons_zero,List.set_cons_succ,List.getElem_toArray,List.getElem_cons_zero,List.getElem_cons_succ]
                            refine wpAnyH_ready (rs:= [15]) (by kernel_rfl) (by simp) ?_
                            refine(AllReadyH.cons (o:=⟨some 142,_,_,_,_,_⟩) rfl (fun KK hK=> ?_) AllReadyH.nil)
                            ·(try rw[if_pos (by rfl)])
                             go_simp
                             refine(HSNN.out _).mono ?_
                             rintro e z8 ⟨rfl,hb⟩
                             (try have hv:=hv.below hb hv.lt)
                             (try have hA:=hA.below hb)
                             have hs:=hs.trans (hb.mono hs.size)
                             clear hb
                             refine hK.out _ _ (HS.out _ hs) ?_
                             clear hK KK hHeld
                             intro hHeld
                             try simp only[Act.put,List.setIfInBounds_toArray,List.set_cons_zero,List.set_cons_succ,List.getElem_toArray,List.getElem_cons_zero,List.getElem_cons_succ]
                             refine tk 16 ⟨some 143,_,_,_,_,_⟩ ?_ hHeld ?_ ?_
                             rotate_left
                             ·(intro w9 hSw;(try dsimp only at hSw);go_simp)
                              all_goals with_reducible rfl
                             try simp only[Act.put,List.setIfInBounds_toArray,List.set_cons_zero,List.set_cons_succ]
                             refine tk 17 ⟨some 144,_,_,_,_,_⟩ ?_ hHeld ?_ ?_
                             rotate_left
                             ·(intro w9 hSw;(try dsimp only at hSw);go_simp)
                              all_goals with_reducible rfl
                             try simp only[Act.put,List.setIfInBounds_toArray,List.set_cons_zero,List.set_cons_succ]
                             refine tk 18 ⟨some 145,_,_,_,_,_⟩ ?_ hHeld ?_ ?_
                             rotate_left
                             ·(intro w9 hSw;refine yields34 (x:= .tmp 8) (g:=b8) (cs:=pcs (txtV A)) ?_ ?_ rfl (hSw.2.2.2.2.2.2.2.2)<;>rfl)
                             try simp only[Act.put,List.setIfInBounds_toArray,List.set_cons_zero,List.set_cons_succ]
                             refine tk 19 ⟨some 146,_,_,_,_,_⟩ ?_ hHeld ?_ ?_
                             rotate_left
                             ·(intro w9 hSw;refine yields34 (x:= .tmp 9) (g:=b9) (cs:=pcs (txtV B)) ?_ ?_ rfl (hSw.2.2.2.2.2.2.2.1)<;>rfl)
                             try simp only[Act.put,List.setIfInBounds_toArray,List.set_cons_zero,List.set_cons_succ]
                             refine tk 22 ⟨some 149,_,_,_,_,_⟩ ?_ hHeld ?_ ?_
                             rotate_left
                             ·(intro w9 hSw;(try dsimp only at hSw);go_simp)
                              all_goals with_reducible rfl
                             try simp only[Act.put,List.setIfInBounds_toArray,List.set_cons_zero,List.set_cons_succ]
                             refine tk 23 ⟨some 150,_,_,_,_,_⟩ ?_ hHeld ?_ ?_
                             rotate_left
                             ·(intro w9 hSw;have k3:w9.cell? ⟨b8,3,none⟩=some (Value.string A):=(hSw.2.2.2.2.2.2.2.2).cell (j:=3) rfl;go_simp)
                              all_goals with_reducible rfl
                             try simp only[Act.put,List.setIfInBounds_toArray,List.set_cons_zero,List.set_cons_succ]
                             refine tk 24 ⟨some 151,_,_,_,_,_⟩ ?_ hHeld ?_ ?_
                             rotate_left
                             ·(intro w9 hSw;(try dsimp only at hSw);go_simp)
                              all_goals with_reducible rfl
                             try simp only[Act.put,List.setIfInBounds_toArray,List.set_cons_zero,List.set_cons_succ]
                             refine tk 25 ⟨some 152,_,_,_,_,_⟩ ?_ hHeld ?_ ?_
                             rotate_left
                             ·(intro w9 hSw;have k3:w9.cell? ⟨b9,3,none⟩=some (Value.string B):=(hSw.2.2.2.2.2.2.2.1).cell (j:=3) rfl;go_simp)
                              all_goals with_reducible rfl
                             try simp only[Act.put,List.setIfInBounds_toArray,List.set_cons_zero,List.set_cons_succ]
                             refine tk 26 ⟨some 153,_,_,_,_,_⟩ ?_ hHeld ?_ ?_
                             rotate_left
                             ·(intro w9 hSw;refine yields_eqs (x:= .tmp 150) (y:= .tmp 152) (A:=A) (B:=B) (bv:=bv) ?_ ?_ ?_ HBV.out<;>rfl)
                             try simp only[Act.put,List.setIfInBounds_toArray,List.set_cons_zero,List.set_cons_succ]
                             refine tk 27 ⟨some 154,_,_,_,_,_⟩ ?_ hHeld ?_ ?_
                             rotate_left
                             ·(intro w9 hSw;refine yields_trv (x:= .tmp 153) (b:=bv) ?_ ?_<;>rfl)
                             try simp only[Act.put,List.setIfInBounds_toArray,List.set_cons_zero,List.set_cons_succ]
                             refine wpAnyH_ready (rs:= [20]) (by kernel_rfl) (by simp) ?_
                             refine(AllReadyH.cons (o:=⟨some 147,_,_,_,_,_⟩) rfl (fun KK hK=> ?_) AllReadyH.nil)
                             ·(try rw[if_pos (by rfl)])
                              refine op_bsl2 rfl rfl rfl ?_
                              obtain⟨z9,hz9⟩:∃X,X=World.alloc z8 (.cells (vsC [(txtV A),(txtV B)]).toArray 39):=⟨_,rfl⟩
                              obtain⟨gz9,hgz9⟩:∃g,g=(z8).heap.size:=⟨_,rfl⟩
                              have hA:Els [(txtV A),(txtV B)] gz9 0 z9:=by rw[hz9,hgz9];exact els_new _ _
                              have hb:Below (z8).heap.size (z8) z9:=by rw[hz9];exact(Below.refl _ _).alloc (Nat.le_refl _) _
                              rw[←hz9,←hgz9]
                              (try have hv:=hv.below hb hv.lt)
                              have hs:=hs.trans (hb.mono hs.size)
                              clear hb hz9 hgz9
                              refine hK.out _ _ (HS.out _ hs) ?_
                              clear hK KK hHeld
                              intro hHeld
                              try simp only[Act.put,List.setIfInBounds_toArray,List.set_cons_zero,List.set_cons_succ]
                              refine wpAnyH_ready (rs:= [21]) (by kernel_rfl) (by simp) ?_
                              refine(AllReadyH.cons (o:=⟨some 148,_,_,_,_,_⟩) rfl (fun KK hK=> ?_) AllReadyH.nil)
                              ·(try rw[if_pos (by rfl)])
                               go_simp
                               refine(HEXA.out _ _ (HB.out _ hs) hA).mono ?_
                               rintro e z10 ⟨rfl,hb⟩
                               (try have hv:=hv.below hb hv.lt)
                               (try have hA:=hA.below hb)
                               have hs:=hs.trans (hb.mono hs.size)
                               clear hb
                               refine hK.out _ _ (HS.out _ hs) ?_
                               clear hK KK hHeld
                               intro hHeld
                               try simp only[Act.put,List.setIfInBounds_toArray,List.set_cons_zero,List.set_cons_succ,List.getElem_toArray,List.getElem_cons_zero,List.getElem_cons_succ]
                               refine wpAnyH_ready (rs:= [28]) (by kernel_rfl) (by simp) ?_
                               refine(AllReadyH.cons (o:=⟨some 155,_,_,_,_,_⟩) rfl (fun KK hK=> ?_) AllReadyH.nil)
                               ·(try rw[if_pos (by rfl)])
                                go_simp
                                refine(HSTR.out _).mono ?_
                                rintro e z11 ⟨rfl,hb⟩
                                (try have hv:=hv.below hb hv.lt)
                                (try have hA:=hA.below hb)
                                have hs:=hs.trans (hb.mono hs.size)
                                clear hb
                                refine hK.out _ _ (HS.out _ hs) ?_
                                clear hK KK hHeld
                                intro hHeld
                                try simp only[Act.put,List.setIfInBounds_toArray,List.set_cons_zero,List.set_cons_succ,List.getElem_toArray,List.getElem_cons_zero,List.getElem_cons_succ]
                                refine tk 29 ⟨some 156,_,_,_,_,_⟩ ?_ hHeld ?_ ?_
                                rotate_left
                                ·(intro w9 hSw;(try dsimp only at hSw);go_simp)
                                 all_goals with_reducible rfl
                                try simp only[Act.put,List.setIfInBounds_toArray,List.set_cons_zero,List.set_cons_succ]
                                refine tk 30 ⟨some 157,_,_,_,_,_⟩ ?_ hHeld ?_ ?_
                                rotate_left
                                ·(intro w9 hSw;(try dsimp only at hSw);go_simp)
                                 all_goals with_reducible rfl
                                try simp only[Act.put,List.setIfInBounds_toArray,List.set_cons_zero,List.set_cons_succ]
                                refine tk 31 ⟨some 158,_,_,_,_,_⟩ ?_ hHeld ?_ ?_
                                rotate_left
                                ·(intro w9 hSw;refine yields34 (x:= .tmp 16) (g:=b16) (cs:=pcs (txtV C)) ?_ ?_ rfl (hSw.2.2.2.1)<;>rfl)
                                try simp only[Act.put,List.setIfInBounds_toArray,List.set_cons_zero,List.set_cons_succ]
                                refine tk 33 ⟨some 160,_,_,_,_,_⟩ ?_ hHeld ?_ ?_
                                rotate_left
                                ·(intro w9 hSw;refine yields34 (x:= .tmp 9) (g:=b9) (cs:=pcs (txtV B)) ?_ ?_ rfl (hSw.2.2.2.2.2.2.2.1)<;>rfl)
                                try simp only[Act.put,List.setIfInBounds_toArray,List.set_cons_zero,List.set_cons_succ]
                                refine tk 36 ⟨some 163,_,_,_,_,_⟩ ?_ hHeld ?_ ?_
                                rotate_left
                                ·(intro w9 hSw;refine yields34 (x:= .tmp 16) (g:=b16) (cs:=pcs (txtV C)) ?_ ?_ rfl (hSw.2.2.2.1)<;>rfl)
                                try simp only[Act.put,List.setIfInBounds_toArray,List.set_cons_zero,List.set_cons_succ]
                                refine wpAnyH_ready (rs:= [32]) (by kernel_rfl) (by simp) ?_
                                refine(AllReadyH.cons (o:=⟨some 159,_,_,_,_,_⟩) rfl (fun KK hK=> ?_) AllReadyH.nil)
                                ·(try rw[if_pos (by rfl)])
                                 go_simp
                                 refine(HTE.out _).mono ?_
                                 rintro e z12 ⟨rfl,hb⟩
                                 (try have hv:=hv.below hb hv.lt)
                                 (try have hA:=hA.below hb)
                                 have hs:=hs.trans (hb.mono hs.size)
                                 clear hb
                                 refine hK.out _ _ (HS.out _ hs) ?_
                                 clear hK KK hHeld
                                 intro hHeld
                                 try simp only[Act.put,List.setIfInBounds_toArray,List.set_cons_zero,List.set_cons_succ,List.getElem_toArray,List.getElem_cons_zero,List.getElem_cons_succ]
                                 refine wpAnyH_ready (rs:= [34]) (by kernel_rfl) (by simp) ?_
                                 refine(AllReadyH.cons (o:=⟨some 161,_,_,_,_,_⟩) rfl (fun KK hK=> ?_) AllReadyH.nil)
                                 ·(try rw[if_pos (by rfl)])
                                  refine op_bsl3 rfl rfl rfl rfl ?_
                                  obtain⟨z13,hz13⟩:∃X,X=World.alloc z12 (.cells (vsC [(txtV C),(txtV ⟨#[]⟩),(txtV B)]).toArray 39):=⟨_,rfl⟩
                                  obtain⟨gz13,hgz13⟩:∃g,g=(z12).heap.size:=⟨_,rfl⟩
                                  have hA:Els [(txtV C),(txtV ⟨#[]⟩),(txtV B)] gz13 0 z13:=by rw[hz13,hgz13];exact els_new _ _
                                  have hb:Below (z12).heap.size (z12) z13:=by rw[hz13];exact(Below.refl _ _).alloc (Nat.le_refl _) _
                                  rw[←hz13,←hgz13]
                                  (try have hv:=hv.below hb hv.lt)
                                  have hs:=hs.trans (hb.mono hs.size)
                                  clear hb hz13 hgz13
                                  refine hK.out _ _ (HS.out _ hs) ?_
                                  clear hK KK hHeld
                                  intro hHeld
                                  try simp only[Act.put,List.setIfInBounds_toArray,List.set_cons_zero,List.set_cons_succ]
                                  refine wpAnyH_ready (rs:= [35]) (by kernel_rfl) (by simp) ?_
                                  refine(AllReadyH.cons (o:=⟨some 162,_,_,_,_,_⟩) rfl (fun KK hK=> ?_) AllReadyH.nil)
                                  ·(try rw[if_pos (by rfl)])
                                   go_simp
                                   refine(HSUB.out _ _ (HB.out _ hs) hA).mono ?_
                                   rintro e z14 ⟨rfl,hb⟩
                                   (try have hv:=hv.below hb hv.lt)
                                   (try have hA:=hA.below hb)
                                   have hs:=hs.trans (hb.mono hs.size)
                                   clear hb
                                   refine hK.out _ _ (HS.out _ hs) ?_
                                   clear hK KK hHeld
                                   intro hHeld
                                   try simp only[Act.put,List.setIfInBounds_toArray,List.set_cons_zero,List.set_cons_succ,List.getElem_toArray,List.getElem_cons_zero,List.getElem_cons_succ]
                                   refine wpAnyH_ready (rs:= [37]) (by kernel_rfl) (by simp) ?_
                                   refine(AllReadyH.cons (o:=⟨some 164,_,_,_,_,_⟩) rfl (fun KK hK=> ?_) AllReadyH.nil)
                                   ·(try rw[if_pos (by rfl)])
                                    go_simp
                                    refine(HSXC.out _).mono ?_
                                    rintro e z15 ⟨rfl,hb⟩
                                    (try have hv:=hv.below hb hv.lt)
                                    (try have hA:=hA.below hb)
                                    have hs:=hs.trans (hb.mono hs.size)
                                    clear hb
                                    refine hK.out _ _ (HS.out _ hs) ?_
                                    clear hK KK hHeld
                                    intro hHeld
                                    try simp only[Act.put,List.setIfInBounds_toArray,List.set_cons_zero,List.set_cons_succ,List.getElem_toArray,List.getElem_cons_zero,List.getElem_cons_succ]
                                    refine tk 38 ⟨some 165,_,_,_,_,_⟩ ?_ hHeld ?_ ?_
                                    rotate_left
                                    ·(intro w9 hSw;(try dsimp only at hSw);go_simp)
                                     all_goals with_reducible rfl
                                    try simp only[Act.put,List.setIfInBounds_toArray,List.set_cons_zero,List.set_cons_succ]
                                    refine tk 39 ⟨some 6,_,_,_,_,_⟩ ?_ hHeld ?_ ?_
                                    rotate_left
                                    ·(intro w9 hSw;(try dsimp only at hSw);go_simp)
                                     all_goals with_reducible rfl
                                    try simp only[Act.put,List.setIfInBounds_toArray,List.set_cons_zero,List.set_cons_succ]
                                    refine wpAnyH_done (by kernel_rfl) ?_ _
                                    try simp only[Act.put,List.setIfInBounds_toArray,List.set_cons_zero,List.set_cons_succ,List.getElem_toArray,List.getElem_cons_zero,List.getElem_cons_succ]
                                    go_wp2_with fail
                                    go_ret
                                    exact⟨rfl,HB.out _ hs⟩
end Go.Proofs.YtmhfioimgllgeaaGreatDoor
