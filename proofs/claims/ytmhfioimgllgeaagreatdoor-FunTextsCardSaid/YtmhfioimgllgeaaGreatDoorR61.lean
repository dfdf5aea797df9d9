/- Fun: LEN, LEFT, RIGHT, MID, FIND, CONCAT, UPPER, LOWER, EXACT, SUBSTITUTE by their names; their laws, plain. (By gentxd.py.) -/
import Derived.Test.YtmhfioimgllgeaaGreatDoorR60
import Derived.Test.YtmhfioimgllgeaaGreatDoorR49
namespace Go.Proofs.YtmhfioimgllgeaaGreatDoor
open Go Go.RowKit Go.Shelf Go.Lib
theorem Ds.At.j_inv {w:World} {g:Nat} {u v a:Value} (h:(Ds.j g u v).At w a):∃p p',a= .func (.func g) #[] #[p,p']∧Bx w p u∧Bx w p' v:=h
theorem Ds.At.cc_inv {w:World} {g F:Nat} {a:Value} (h:(Ds.c g (.f F)).At w a):∃p,a= .func (.func g) #[] #[p]∧Bx w p (.func (.func F) #[] #[]):=by
 obtain⟨p,u,e,h1,h2⟩:=h
 have h2:u= .func (.func F) #[] #[]:=h2
 subst h2
 exact⟨p,e,h1⟩
abbrev cntV (k:Nat):Vl:=numV (ofD (k:Int)).1
theorem cnt_rp (k:Nat):RightP (ofD (k:Int)).1:=by
 rcases h:ofD (k:Int)with ⟨⟨x,y⟩,er⟩
 show RightP (x,y)
 exact ofD_right h
def cntB' (k:Nat):Bool:=decide (whN (cntV k)=(k:Int))&&(whR (cntV k) 0 4611686018427387904&&((k==0||whR (cntV k) 1 4611686018427387904)&&decide (floorD (ofD (k:Int)).1.1 (ofD (k:Int)).1.2=((k:Int),0))))
theorem cnt_all :(List.range 251).all cntB'=true:=by kernel_rfl
theorem cnt_is {k:Nat} (h:k≤250):whN (cntV k)=(k:Int)∧whR (cntV k) 0 4611686018427387904=true∧(1≤k→whR (cntV k) 1 4611686018427387904=true)∧floorD (ofD (k:Int)).1.1 (ofD (k:Int)).1.2=((k:Int),0):=by
 have h:=List.all_eq_true.1 cnt_all k (by rw[List.mem_range];omega)
 unfold cntB' at h
 rw[Bool.and_eq_true,Bool.and_eq_true,Bool.and_eq_true,decide_eq_true_iff,decide_eq_true_iff]at h
 refine⟨h.1,h.2.1,fun hk=> ?_,h.2.2.2⟩
 have h2:=h.2.2.1
 rw[Bool.or_eq_true]at h2
 rcases h2 with h2|h2
 ·rw[beq_iff_eq]at h2;omega
 ·exact h2
theorem cmp_cnt_all :((List.range 60).all fun a=>(List.range 60).all fun b=>decide (b<a)||decide (cmpV 4 (cntV a) (cntV b)≤0))=true:=by kernel_rfl
theorem cmp_cnt {a b:Nat} (h:a≤b) (hb:b<60):cmpV 4 (cntV a) (cntV b)≤0:=by
 have h1:=List.all_eq_true.1 cmp_cnt_all a (by rw[List.mem_range];omega)
 have h2:=List.all_eq_true.1 h1 b (by rw[List.mem_range];omega)
 rw[Bool.or_eq_true,decide_eq_true_iff,decide_eq_true_iff]at h2
 omega
theorem eg150 :∀args w,(callFunc 150 args).run Tryz.prog w= .ok (.enter 150 args) w:=enters_of Tryz.func150 (by kernel_rfl) rfl
theorem eg153 :∀args w,(callFunc 153 args).run Tryz.prog w= .ok (.enter 153 args) w:=enters_of Tryz.func153 (by kernel_rfl) rfl
theorem eg154 :∀args w,(callFunc 154 args).run Tryz.prog w= .ok (.enter 154 args) w:=enters_of Tryz.func154 (by kernel_rfl) rfl
theorem eg159 :∀args w,(callFunc 159 args).run Tryz.prog w= .ok (.enter 159 args) w:=enters_of Tryz.func159 (by kernel_rfl) rfl
theorem eg160 :∀args w,(callFunc 160 args).run Tryz.prog w= .ok (.enter 160 args) w:=enters_of Tryz.func160 (by kernel_rfl) rfl
theorem eg244 :∀args w,(callFunc 244 args).run Tryz.prog w= .ok (.enter 244 args) w:=enters_of Tryz.func244 (by kernel_rfl) rfl
theorem eg247 :∀args w,(callFunc 247 args).run Tryz.prog w= .ok (.enter 247 args) w:=enters_of Tryz.func247 (by kernel_rfl) rfl
set_option maxRecDepth 100000 in
set_option maxHeartbeats 4000000 in
theorem call_len (s:ByteArray) (hs:txtOk s=true) (g c:Nat) (hc:1≤c) (hm:c≤maxLen) (w:World) (hEl:Els [txtV s] g 0 w) (hE:Env w):
 Calls Tryz.prog 18 #[.string (mk [76,69,78]),.slice (some ⟨g,0,none⟩) 1 c,.agg #[.int .i64 0,.int .i64 0]] w (Gives (.agg (pcs (lenV s))) w):=by
 refine call_one (mk [76,69,78]) (by decide) 0 0 {least:=1,most:=1,how:= [116],one:=some (.c 243 (.f 150))} (by kernel_rfl) (by simp) (by simp) (.c 243 (.f 150)) rfl [txtV s] (by
  intro x hx
  simp only[List.mem_cons,List.not_mem_nil,or_false]at hx
  rcases hx with rfl
  ·exact plain_txt (by assumption)) (by simp) (by simp) (by simp) g 0 c hc hm w hEl hE (by simp) (by simp) _ ?_ ?_ ?_
 ·intro _ W gf ps hW hd base g' cap hr hg
  obtain⟨rfl,pp,u,rfl,hb,hu⟩:=hd.c_inv
  have hu:u= .func (.func 150) #[] #[]:=hu
  subst hu
  exact texts1c_any 150 #[] eg150 _ [txtV s] base g' cap pp W (fun b S W2 hB2 hS hL=>len150 s (txt_size hs) b S _ W2 hS) hr hg (by simp) hb
 ·intro W gf ps hd
  obtain⟨rfl,_⟩:=hd.c_inv
  exact eg243
 ·intro i x hx hb _
  exfalso
  match i,hx with
  |0,hx=>
   have e:txtV s=x:=by simpa using hx
   subst e;exact absurd hb (by have:badL 116 (txtV s)=false:=rfl;show ¬badL 116 (txtV s)=true;rw[this];simp)
  |i+1,hx=>simp at hx
set_option maxRecDepth 100000 in
set_option maxHeartbeats 4000000 in
theorem call_subst (s m:ByteArray) (hs:txtOk s=true) (h0:txtOk ⟨#[]⟩=true) (hm0:txtOk m=true) (g c:Nat) (hc:3≤c) (hm:c≤maxLen) (w:World) (hEl:Els [txtV s,txtV ⟨#[]⟩,txtV m] g 0 w) (hE:Env w):
 Calls Tryz.prog 18 #[.string (mk [83,85,66,83,84,73,84,85,84,69]),.slice (some ⟨g,0,none⟩) 3 c,.agg #[.int .i64 0,.int .i64 0]] w (Gives (.agg (pcs (txtV s))) w):=by
 refine call_one (mk [83,85,66,83,84,73,84,85,84,69]) (by decide) 0 0 {least:=3,most:=3,how:= [116,116,116],one:=some (.c 243 (.f 160))} (by kernel_rfl) (by simp) (by simp) (.c 243 (.f 160)) rfl [txtV s,txtV ⟨#[]⟩,txtV m] (by
  intro x hx
  simp only[List.mem_cons,List.not_mem_nil,or_false]at hx
  rcases hx with rfl|rfl|rfl
  ·exact plain_txt (by assumption)
  ·exact plain_txt (by assumption)
  ·exact plain_txt (by assumption)) (by simp) (by simp) (by simp) g 0 c hc hm w hEl hE (by simp) (by simp) _ ?_ ?_ ?_
 ·intro _ W gf ps hW hd base g' cap hr hg
  obtain⟨rfl,pp,u,rfl,hb,hu⟩:=hd.c_inv
  have hu:u= .func (.func 160) #[] #[]:=hu
  subst hu
  exact texts1c_any 160 #[] eg160 _ [txtV s,txtV ⟨#[]⟩,txtV m] base g' cap pp W (fun b S W2 hB2 hS hL=>sub160 s m hs b S _ W2 hS ((hE.below hW).below hB2)) hr hg (by simp) hb
 ·intro W gf ps hd
  obtain⟨rfl,_⟩:=hd.c_inv
  exact eg243
 ·intro i x hx hb _
  exfalso
  match i,hx with
  |0,hx=>
   have e:txtV s=x:=by simpa using hx
   subst e;exact absurd hb (by have:badL 116 (txtV s)=false:=rfl;show ¬badL 116 (txtV s)=true;rw[this];simp)
  |1,hx=>
   have e:txtV ⟨#[]⟩=x:=by simpa using hx
   subst e;exact absurd hb (by have:badL 116 (txtV ⟨#[]⟩)=false:=rfl;show ¬badL 116 (txtV ⟨#[]⟩)=true;rw[this];simp)
  |2,hx=>
   have e:txtV m=x:=by simpa using hx
   subst e;exact absurd hb (by have:badL 116 (txtV m)=false:=rfl;show ¬badL 116 (txtV m)=true;rw[this];simp)
  |i+3,hx=>simp at hx
set_option maxRecDepth 100000 in
set_option maxHeartbeats 4000000 in
theorem call_find (m s:ByteArray) (hm0:txtOk m=true) (hs:txtOk s=true) (i:Nat) (hi:index s.data.toList m.data.toList=(i:Int)) (hil:i≤s.size) (g c:Nat) (hc:2≤c) (hm:c≤maxLen) (w:World) (hEl:Els [txtV m,txtV s] g 0 w) (hE:Env w):
 Calls Tryz.prog 18 #[.string (mk [70,73,78,68]),.slice (some ⟨g,0,none⟩) 2 c,.agg #[.int .i64 0,.int .i64 0]] w (Gives (.agg (pcs (findV s.data.toList m.data.toList))) w):=by
 refine call_one (mk [70,73,78,68]) (by decide) 0 0 {least:=2,most:=3,how:= [116,116,110],one:=some (.c 243 (.f 159))} (by kernel_rfl) (by simp) (by simp) (.c 243 (.f 159)) rfl [txtV m,txtV s] (by
  intro x hx
  simp only[List.mem_cons,List.not_mem_nil,or_false]at hx
  rcases hx with rfl|rfl
  ·exact plain_txt (by assumption)
  ·exact plain_txt (by assumption)) (by simp) (by simp) (by simp) g 0 c hc hm w hEl hE (by simp) (by simp) _ ?_ ?_ ?_
 ·intro _ W gf ps hW hd base g' cap hr hg
  obtain⟨rfl,pp,u,rfl,hb,hu⟩:=hd.c_inv
  have hu:u= .func (.func 159) #[] #[]:=hu
  subst hu
  exact texts1c_any 159 #[] eg159 _ [txtV m,txtV s] base g' cap pp W (fun b S W2 hB2 hS hL=>find159 m s hs i hi hil b g' cap S W2 hS ((hE.below hW).below hB2)) hr hg (by simp) hb
 ·intro W gf ps hd
  obtain⟨rfl,_⟩:=hd.c_inv
  exact eg243
 ·intro i x hx hb _
  exfalso
  match i,hx with
  |0,hx=>
   have e:txtV m=x:=by simpa using hx
   subst e;exact absurd hb (by have:badL 116 (txtV m)=false:=rfl;show ¬badL 116 (txtV m)=true;rw[this];simp)
  |1,hx=>
   have e:txtV s=x:=by simpa using hx
   subst e;exact absurd hb (by have:badL 116 (txtV s)=false:=rfl;show ¬badL 116 (txtV s)=true;rw[this];simp)
  |i+2,hx=>simp at hx
set_option maxRecDepth 100000 in
set_option maxHeartbeats 4000000 in
theorem call_exact2 (s m:ByteArray) (hs:txtOk s=true) (hm0:txtOk m=true) (bv:Bool) (hbv:(s.toList==m.toList)=bv) (g c:Nat) (hc:2≤c) (hm:c≤maxLen) (w:World) (hEl:Els [txtV s,txtV m] g 0 w) (hE:Env w):
 Calls Tryz.prog 18 #[.string (mk [69,88,65,67,84]),.slice (some ⟨g,0,none⟩) 2 c,.agg #[.int .i64 0,.int .i64 0]] w (Gives (.agg (pcs (trV bv))) w):=by
 refine call_one (mk [69,88,65,67,84]) (by decide) 0 0 {least:=2,most:=2,how:= [116,116],one:=some (.c 243 (.f 161))} (by kernel_rfl) (by simp) (by simp) (.c 243 (.f 161)) rfl [txtV s,txtV m] (by
  intro x hx
  simp only[List.mem_cons,List.not_mem_nil,or_false]at hx
  rcases hx with rfl|rfl
  ·exact plain_txt (by assumption)
  ·exact plain_txt (by assumption)) (by simp) (by simp) (by simp) g 0 c hc hm w hEl hE (by simp) (by simp) _ ?_ ?_ ?_
 ·intro _ W gf ps hW hd base g' cap hr hg
  obtain⟨rfl,pp,u,rfl,hb,hu⟩:=hd.c_inv
  have hu:u= .func (.func 161) #[] #[]:=hu
  subst hu
  exact texts1c_any 161 #[] eg161 _ [txtV s,txtV m] base g' cap pp W (fun b S W2 hB2 hS hL=>exact161 s m bv hbv b S _ W2 hS) hr hg (by simp) hb
 ·intro W gf ps hd
  obtain⟨rfl,_⟩:=hd.c_inv
  exact eg243
 ·intro i x hx hb _
  exfalso
  match i,hx with
  |0,hx=>
   have e:txtV s=x:=by simpa using hx
   subst e;exact absurd hb (by have:badL 116 (txtV s)=false:=rfl;show ¬badL 116 (txtV s)=true;rw[this];simp)
  |1,hx=>
   have e:txtV m=x:=by simpa using hx
   subst e;exact absurd hb (by have:badL 116 (txtV m)=false:=rfl;show ¬badL 116 (txtV m)=true;rw[this];simp)
  |i+2,hx=>simp at hx
set_option maxRecDepth 100000 in
set_option maxHeartbeats 4000000 in
theorem call_mid2 (s:ByteArray) (hs:txtOk s=true) (p q:Int×Int) (hp:RightP p) (hq:RightP q) (g c:Nat) (hc:3≤c) (hm:c≤maxLen) (w:World) (hEl:Els [txtV s,numV p,numV q] g 0 w) (hE:Env w):
 Calls Tryz.prog 18 #[.string (mk [77,73,68]),.slice (some ⟨g,0,none⟩) 3 c,.agg #[.int .i64 0,.int .i64 0]] w (Gives (.agg (pcs (midV s (numV p) (numV q)))) w):=by
 refine call_one (mk [77,73,68]) (by decide) 0 0 {least:=3,most:=3,how:= [116,110,110],one:=some (.c 243 (.f 155))} (by kernel_rfl) (by simp) (by simp) (.c 243 (.f 155)) rfl [txtV s,numV p,numV q] (by
  intro x hx
  simp only[List.mem_cons,List.not_mem_nil,or_false]at hx
  rcases hx with rfl|rfl|rfl
  ·exact plain_txt (by assumption)
  ·exact plain_num (by assumption)
  ·exact plain_num (by assumption)) (by simp) (by simp) (by simp) g 0 c hc hm w hEl hE (by simp) (by simp) _ ?_ ?_ ?_
 ·intro _ W gf ps hW hd base g' cap hr hg
  obtain⟨rfl,pp,u,rfl,hb,hu⟩:=hd.c_inv
  have hu:u= .func (.func 155) #[] #[]:=hu
  subst hu
  exact texts1c_any 155 #[] eg155 _ [txtV s,numV p,numV q] base g' cap pp W (fun b S W2 hB2 hS hL=>mid_any s hs (txtV s) (numV p) (numV q) hp hq b base g' cap S W2 hS hL ((hE.below hW).below hB2)) hr hg (by simp) hb
 ·intro W gf ps hd
  obtain⟨rfl,_⟩:=hd.c_inv
  exact eg243
 ·intro i x hx hb _
  exfalso
  match i,hx with
  |0,hx=>
   have e:txtV s=x:=by simpa using hx
   subst e;exact absurd hb (by have:badL 116 (txtV s)=false:=rfl;show ¬badL 116 (txtV s)=true;rw[this];simp)
  |1,hx=>
   have e:numV p=x:=by simpa using hx
   subst e;exact absurd hb (by have:badL 110 (numV p)=false:=rfl;show ¬badL 110 (numV p)=true;rw[this];simp)
  |2,hx=>
   have e:numV q=x:=by simpa using hx
   subst e;exact absurd hb (by have:badL 110 (numV q)=false:=rfl;show ¬badL 110 (numV q)=true;rw[this];simp)
  |i+3,hx=>simp at hx
set_option maxRecDepth 100000 in
set_option maxHeartbeats 4000000 in
theorem call_left (s:ByteArray) (hs:txtOk s=true) (k:Nat) (hk:k≤(sgs s.data.toList).length) (p:Int×Int) (hq:RightP p) (hw:whN (numV p)=(k:Int)) (hwr:whR (numV p) 0 4611686018427387904=true) (g c:Nat) (hc:2≤c) (hm:c≤maxLen) (w:World) (hEl:Els [txtV s,numV p] g 0 w) (hE:Env w):
 Calls Tryz.prog 18 #[.string (mk [76,69,70,84]),.slice (some ⟨g,0,none⟩) 2 c,.agg #[.int .i64 0,.int .i64 0]] w (Gives (.agg (pcs (txtV (mk (((sgs s.data.toList).drop 0).take k).flatten)))) w):=by
 refine call_one (mk [76,69,70,84]) (by decide) 0 0 {least:=1,most:=2,how:= [116,110],one:=some (.c 243 (.c 244 (.f 153)))} (by kernel_rfl) (by simp) (by simp) (.c 243 (.c 244 (.f 153))) rfl [txtV s,numV p] (by
  intro x hx
  simp only[List.mem_cons,List.not_mem_nil,or_false]at hx
  rcases hx with rfl|rfl
  ·exact plain_txt (by assumption)
  ·exact plain_num (by assumption)) (by simp) (by simp) (by simp) g 0 c hc hm w hEl hE (by simp) (by simp) _ ?_ ?_ ?_
 ·intro _ W gf ps hW hd base g' cap hr hg
  obtain⟨rfl,pp,u,rfl,hb,hu⟩:=hd.c_inv
  obtain⟨p1,rfl,hb1⟩:=hu.cc_inv
  exact texts1c_any 244 #[p1] eg244 _ [txtV s,numV p] base g' cap pp W (fun b S W2 hB2 hS hL=>part244 153 eg153 s hs (txtV s) (numV p) hq hwr k 0 hw hk (by omega) (fun h0 W3=>by have:=left153 none 0 0 0 (Nat.le_refl _) W3;exact this) (fun g3 c3 W3 hc3=>(left153 (some ⟨g3,0,none⟩) _ k c3 (by omega) W3).mono fun e w' h=>⟨0,c3,h.1,by omega,fun _=>rfl,h.2⟩) b base g' cap S p1 W2 hS hL ((hE.below hW).below hB2) (hb1.below hB2)) hr hg (by simp) hb
 ·intro W gf ps hd
  obtain⟨rfl,_⟩:=hd.c_inv
  exact eg243
 ·intro i x hx hb _
  exfalso
  match i,hx with
  |0,hx=>
   have e:txtV s=x:=by simpa using hx
   subst e;exact absurd hb (by have:badL 116 (txtV s)=false:=rfl;show ¬badL 116 (txtV s)=true;rw[this];simp)
  |1,hx=>
   have e:numV p=x:=by simpa using hx
   subst e;exact absurd hb (by have:badL 110 (numV p)=false:=rfl;show ¬badL 110 (numV p)=true;rw[this];simp)
  |i+2,hx=>simp at hx
set_option maxRecDepth 100000 in
set_option maxHeartbeats 4000000 in
theorem call_right (s:ByteArray) (hs:txtOk s=true) (k:Nat) (hk:k≤(sgs s.data.toList).length) (p:Int×Int) (hq:RightP p) (hw:whN (numV p)=(k:Int)) (hwr:whR (numV p) 0 4611686018427387904=true) (g c:Nat) (hc:2≤c) (hm:c≤maxLen) (w:World) (hEl:Els [txtV s,numV p] g 0 w) (hE:Env w):
 Calls Tryz.prog 18 #[.string (mk [82,73,71,72,84]),.slice (some ⟨g,0,none⟩) 2 c,.agg #[.int .i64 0,.int .i64 0]] w (Gives (.agg (pcs (txtV (mk (((sgs s.data.toList).drop ((sgs s.data.toList).length-k)).take k).flatten)))) w):=by
 refine call_one (mk [82,73,71,72,84]) (by decide) 0 0 {least:=1,most:=2,how:= [116,110],one:=some (.c 243 (.c 244 (.f 154)))} (by kernel_rfl) (by simp) (by simp) (.c 243 (.c 244 (.f 154))) rfl [txtV s,numV p] (by
  intro x hx
  simp only[List.mem_cons,List.not_mem_nil,or_false]at hx
  rcases hx with rfl|rfl
  ·exact plain_txt (by assumption)
  ·exact plain_num (by assumption)) (by simp) (by simp) (by simp) g 0 c hc hm w hEl hE (by simp) (by simp) _ ?_ ?_ ?_
 ·intro _ W gf ps hW hd base g' cap hr hg
  obtain⟨rfl,pp,u,rfl,hb,hu⟩:=hd.c_inv
  obtain⟨p1,rfl,hb1⟩:=hu.cc_inv
  exact texts1c_any 244 #[p1] eg244 _ [txtV s,numV p] base g' cap pp W (fun b S W2 hB2 hS hL=>part244 154 eg154 s hs (txtV s) (numV p) hq hwr k ((sgs s.data.toList).length-k) hw hk (by omega) (fun h0 W3=>right154n W3) (fun g3 c3 W3 hc3=>(right154 g3 _ k c3 hk hc3 (by have:=sgs_size (txt_size hs);omega) W3).mono fun e w' ⟨o,h1,h2,h3⟩=>⟨o,_,h1,by omega,h2,h3⟩) b base g' cap S p1 W2 hS hL ((hE.below hW).below hB2) (hb1.below hB2)) hr hg (by simp) hb
 ·intro W gf ps hd
  obtain⟨rfl,_⟩:=hd.c_inv
  exact eg243
 ·intro i x hx hb _
  exfalso
  match i,hx with
  |0,hx=>
   have e:txtV s=x:=by simpa using hx
   subst e;exact absurd hb (by have:badL 116 (txtV s)=false:=rfl;show ¬badL 116 (txtV s)=true;rw[this];simp)
  |1,hx=>
   have e:numV p=x:=by simpa using hx
   subst e;exact absurd hb (by have:badL 110 (numV p)=false:=rfl;show ¬badL 110 (numV p)=true;rw[this];simp)
  |i+2,hx=>simp at hx
set_option maxRecDepth 100000 in
set_option maxHeartbeats 4000000 in
theorem call_upper (s:ByteArray) (hs:txtOk s=true) (g c:Nat) (hc:1≤c) (hm:c≤maxLen) (w:World) (hEl:Els [txtV s] g 0 w) (hE:Env w):
 Calls Tryz.prog 18 #[.string (mk [85,80,80,69,82]),.slice (some ⟨g,0,none⟩) 1 c,.agg #[.int .i64 0,.int .i64 0]] w (Gives (.agg (pcs (casV 97 65 s))) w):=by
 refine call_one (mk [85,80,80,69,82]) (by decide) 0 0 {least:=1,most:=1,how:= [116],one:=some (.c 243 (.j 247 (.int .i32 97) (.int .i32 65)))} (by kernel_rfl) (by simp) (by simp) (.c 243 (.j 247 (.int .i32 97) (.int .i32 65))) rfl [txtV s] (by
  intro x hx
  simp only[List.mem_cons,List.not_mem_nil,or_false]at hx
  rcases hx with rfl
  ·exact plain_txt (by assumption)) (by simp) (by simp) (by simp) g 0 c hc hm w hEl hE (by simp) (by simp) _ ?_ ?_ ?_
 ·intro _ W gf ps hW hd base g' cap hr hg
  obtain⟨rfl,pp,u,rfl,hb,hu⟩:=hd.c_inv
  obtain⟨p1,p2,rfl,hb1,hb2⟩:=hu.j_inv
  exact texts1c_any 247 #[p1,p2] eg247 _ [txtV s] base g' cap pp W (fun b S W2 hB2 hS hL=>cased247 97 65 (.inl ⟨rfl,rfl⟩) s hs b S _ p1 p2 W2 hS ((hE.below hW).below hB2) (hb1.below hB2) (hb2.below hB2)) hr hg (by simp) hb
 ·intro W gf ps hd
  obtain⟨rfl,_⟩:=hd.c_inv
  exact eg243
 ·intro i x hx hb _
  exfalso
  match i,hx with
  |0,hx=>
   have e:txtV s=x:=by simpa using hx
   subst e;exact absurd hb (by have:badL 116 (txtV s)=false:=rfl;show ¬badL 116 (txtV s)=true;rw[this];simp)
  |i+1,hx=>simp at hx
set_option maxRecDepth 100000 in
set_option maxHeartbeats 4000000 in
theorem call_lower (s:ByteArray) (hs:txtOk s=true) (g c:Nat) (hc:1≤c) (hm:c≤maxLen) (w:World) (hEl:Els [txtV s] g 0 w) (hE:Env w):
 Calls Tryz.prog 18 #[.string (mk [76,79,87,69,82]),.slice (some ⟨g,0,none⟩) 1 c,.agg #[.int .i64 0,.int .i64 0]] w (Gives (.agg (pcs (casV 65 97 s))) w):=by
 refine call_one (mk [76,79,87,69,82]) (by decide) 0 0 {least:=1,most:=1,how:= [116],one:=some (.c 243 (.j 247 (.int .i32 65) (.int .i32 97)))} (by kernel_rfl) (by simp) (by simp) (.c 243 (.j 247 (.int .i32 65) (.int .i32 97))) rfl [txtV s] (by
  intro x hx
  simp only[List.mem_cons,List.not_mem_nil,or_false]at hx
  rcases hx with rfl
  ·exact plain_txt (by assumption)) (by simp) (by simp) (by simp) g 0 c hc hm w hEl hE (by simp) (by simp) _ ?_ ?_ ?_
 ·intro _ W gf ps hW hd base g' cap hr hg
  obtain⟨rfl,pp,u,rfl,hb,hu⟩:=hd.c_inv
  obtain⟨p1,p2,rfl,hb1,hb2⟩:=hu.j_inv
  exact texts1c_any 247 #[p1,p2] eg247 _ [txtV s] base g' cap pp W (fun b S W2 hB2 hS hL=>cased247 65 97 (.inr ⟨rfl,rfl⟩) s hs b S _ p1 p2 W2 hS ((hE.below hW).below hB2) (hb1.below hB2) (hb2.below hB2)) hr hg (by simp) hb
 ·intro W gf ps hd
  obtain⟨rfl,_⟩:=hd.c_inv
  exact eg243
 ·intro i x hx hb _
  exfalso
  match i,hx with
  |0,hx=>
   have e:txtV s=x:=by simpa using hx
   subst e;exact absurd hb (by have:badL 116 (txtV s)=false:=rfl;show ¬badL 116 (txtV s)=true;rw[this];simp)
  |i+1,hx=>simp at hx
set_option maxRecDepth 100000 in
set_option maxHeartbeats 4000000 in
theorem call_concat (ts:List ByteArray) (hok:∀t∈ts,txtOk t=true) (hsum:sumS ts≤200) (hne:ts≠ []) (n:Nat) (hn:n=ts.length) (hn2:n≤20) (g c:Nat) (hc:n≤c) (hm:c≤maxLen) (w:World) (hEl:Els (ts.map txtV) g 0 w) (hE:Env w):
 Calls Tryz.prog 18 #[.string (mk [67,79,78,67,65,84]),.slice (some ⟨g,0,none⟩) n c,.agg #[.int .i64 0,.int .i64 0]] w (Gives (.agg (pcs (catV ts))) w):=by
 have hpos:=List.length_pos_iff.2 hne
 have hA:=args_els (by rw[List.length_map];exact hn) hEl (fun x hx=>by
  obtain⟨t,ht,rfl⟩:=List.mem_map.1 hx
  exact plain_txt (hok t ht)) (by omega) hc hm (by simpa using hne)
 refine call_all (mk [67,79,78,67,65,84]) (by decide) 0 0 {least:=1,most:=20,all:=some (.f 191)} (by kernel_rfl) rfl (.f 191) rfl (ts.map txtV) _ w hA hE (by rw[List.length_map];show(1:Int)≤_;omega) (by rw[List.length_map];show _≤(20:Int);omega) _ ?_
 intro W gf ps hW hd
 have hd:fnV gf ps= .func (.func 191) #[] #[]:=hd
 injection hd with e1 _ e3
 injection e1 with e1
 subst e1 e3
 exact⟨eg191,concat_txt ts hok hsum hne (by omega) _ W (hA.below hW) (hE.below hW)⟩
theorem mk_data (l:List UInt8):(mk l).data.toList=l:=by unfold mk;simp
theorem mk_back (s:ByteArray):mk s.data.toList=s:=by
 apply ByteArray.ext
 apply Array.toList_inj.1
 rw[mk_data]
theorem mid_is (s:ByteArray) (hs:txtOk s=true) (a k:Nat) (ha:a<(sgs s.data.toList).length+1) (hk:k≤200):midV s (cntV (a+1)) (cntV k)=txtV (mk (((sgs s.data.toList).drop a).take k).flatten):=by
 have hl:=sgs_size (txt_size hs)
 obtain⟨a1,a2,a3,_⟩:=cnt_is (k:=a+1) (by omega)
 obtain⟨b1,b2,b3,_⟩:=cnt_is (k:=k) (by omega)
 unfold midV
 rw[if_pos ⟨a3 (by omega),b2⟩,a1,b1]
 unfold midL
 obtain⟨L,hL⟩:∃L,L=sgs s.data.toList:=⟨_,rfl⟩
 rw[←hL]at ha⊢
 have e1:(min (((a+1:Nat):Int)-1) (L.length:Int)).toNat=a:=by omega
 rw[e1]
 by_cases hka:k≤L.length-a
 ·have e2:(min (k:Int) ((L.length-a:Nat):Int)).toNat=k:=by omega
  rw[e2]
 ·have e2:(min (k:Int) ((L.length-a:Nat):Int)).toNat=L.length-a:=by omega
  rw[e2,List.take_of_length_le (l:=L.drop a) (i:=k) (by rw[List.length_drop];omega),List.take_of_length_le (l:=L.drop a) (i:=L.length-a) (by rw[List.length_drop];omega)]
end Go.Proofs.YtmhfioimgllgeaaGreatDoor
