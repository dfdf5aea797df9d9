/- Merged: Lwf, Lwb, Lwt, Lwo, Rpl, Awl. -/
import Derived.Test.YtkhohjdakcchdaaGreatDoorBh
import Derived.Test.YtkhohjdakcchdaaGreatDoorBf
import Derived.Lib.Replace
/- A number's text: how it begins; that it is a text. Plain: no program. -/
namespace Go.Proofs.YtkhohjdakcchdaaGreatDoor
open Go

/-- What is read as a number begins with a digit or the minus. -/
theorem read_fig {l : List UInt8} {p : Int × Int} (h : readD l = (p, 0)) : ∃ c r, l = c :: r ∧ (c = 45 ∨ (48 ≤ c.toNat ∧ c.toNat ≤ 57)) := by
  have hf : figB (readW l).1 = true := by
    unfold readD at h
    split at h
    · rename_i hc; exact hc.1
    · injection h with _ h; exact absurd h (by decide)
  obtain ⟨h1, _, h3⟩ := figB_iff hf
  cases l with
  | nil => exact absurd h1 (by decide)
  | cons c r =>
    refine ⟨c, r, rfl, ?_⟩
    by_cases hc : c = 45
    · exact .inl hc
    · right
      have ht : Lib.trimPrefix (c :: r) [45] = c :: r := by
        unfold Lib.trimPrefix Lib.hasPrefix
        simp [List.isPrefixOf]
        intro e; exact absurd e.symm hc
      unfold readW at h1 h3
      rw [ht] at h1 h3
      unfold Lib.cut at h1 h3
      split at h1
      · rename_i hi
        rw [if_pos hi] at h3
        simp only at h1 h3
        have hl : 1 ≤ (Lib.index (c :: r) [46]).toNat := by
          rw [List.length_take] at h1; omega
        obtain ⟨k, hk⟩ : ∃ k, (Lib.index (c :: r) [46]).toNat = k + 1 := ⟨(Lib.index (c :: r) [46]).toNat - 1, by omega⟩
        rw [hk, List.take_succ_cons, List.all_cons, Bool.and_eq_true] at h3
        exact isDig_bd h3.1
      · rename_i hi
        rw [if_neg hi] at h3
        simp only at h3
        rw [List.all_cons, Bool.and_eq_true] at h3
        exact isDig_bd h3.1
theorem text_ascii : ∀ (l : List UInt8), (∀ c ∈ l, 32 ≤ c.toNat ∧ c.toNat < 127) → isTextL l = true
  | [], _ => rfl
  | c :: r, h => by
    obtain ⟨h1, h2⟩ := h c List.mem_cons_self
    have hs : sgnL (c :: r) = 1 := by
      unfold sgnL sgnN
      rw [if_neg (by simp), if_pos (show ((c :: r).getD 0 0).toNat < 128 by show c.toNat < 128; omega)]
    have ho : oddB c = false := by
      unfold oddB
      simp
      omega
    rw [isTextL_step _ (by simp), hs, if_neg (by
      rintro (h | h)
      · cases h
      · have : oddB c = true := h
        rw [ho] at this; cases this)]
    exact text_ascii r (fun c hc => h c (List.mem_cons_of_mem _ hc))
theorem shown_fig {x y : Int} (h : RightP (x, y)) : isTextL (textR x y) = true := by
  obtain ⟨A, P, m, e, hA, _, hP, h0, _⟩ := shown_parts h
  have hd : ∀ l : List UInt8, figB l = true → ∀ c ∈ l, 32 ≤ c.toNat ∧ c.toNat < 127 := fun l hl c hc => by
    have := isDig_bd (List.all_eq_true.1 (figB_iff hl).2.2 c hc)
    omega
  rw [e]
  refine text_ascii _ fun c hc => ?_
  rw [List.mem_append] at hc
  rcases hc with hc | hc
  · split at hc
    · simp at hc; subst hc; decide
    · simp at hc
  · unfold joinL at hc
    rw [List.mem_append] at hc
    rcases hc with hc | hc
    · exact hd A hA c hc
    · cases m with
      | true =>
        simp at hc
        rcases hc with hc | hc
        · subst hc; decide
        · exact hd P (hP rfl) c hc
      | false => simp at hc
end Go.Proofs.YtkhohjdakcchdaaGreatDoor
/- What is written is read back; what is read is right. Plain: no program. -/
namespace Go.Proofs.YtkhohjdakcchdaaGreatDoor
open Go

theorem mk_self (s : ByteArray) : mk s.data.toList = s := by
  obtain ⟨⟨l⟩⟩ := s; rfl
theorem mk_list (l : List UInt8) : (mk l).data.toList = l := rfl
theorem trim_quote (l : List UInt8) : Lib.trimPrefix (39 :: l) [39] = l := by
  unfold Lib.trimPrefix Lib.hasPrefix
  simp [List.isPrefixOf]
theorem not_num {c : UInt8} (l : List UInt8) (h : ¬ (c = 45 ∨ (48 ≤ c.toNat ∧ c.toNat ≤ 57))) : ¬ (readD (c :: l)).2 = 0 := fun e => by
  obtain ⟨c', r, e1, e2⟩ := read_fig (l := c :: l) (p := (readD (c :: l)).1) (by rw [← e])
  injection e1 with e1 _
  subst e1
  exact h e2
theorem truth_none {c : UInt8} (l : List UInt8) (h1 : lowC c ≠ 116) (h2 : lowC c ≠ 102) : truthL (c :: l) = none := by
  unfold truthL lowL trueL falseL
  rw [if_neg (by simp [h1]), if_neg (by simp [h2])]
theorem errF_none {c : UInt8} (l : List UInt8) (h : lowC c ≠ 35) : errF (c :: l) = none := by
  unfold errF
  rw [List.find?_eq_none]
  intro i hi
  have : ∃ r, lowL (errL i) = 35 :: r := by
    simp only [List.mem_cons, List.not_mem_nil, or_false] at hi
    rcases hi with e | e | e | e | e | e | e | e | e <;> subst e <;> exact ⟨_, rfl⟩
  obtain ⟨r, hr⟩ := this
  rw [hr, show lowL (c :: l) = lowC c :: lowL l from rfl]
  simp
  intro e; exact absurd e.symm h
/-- Behind an apostrophe there is the text. -/
theorem read_quote (l : List UInt8) : readV (39 :: l) = if txtOk (mk l) = true then (txtV (mk l), 0) else ({}, 30) := by
  unfold readV
  rw [if_neg (by simp), if_neg (by simp), if_neg (not_num l (by decide)), truth_none l (by decide) (by decide), errF_none l (by decide), trim_quote]
theorem readV_two (l : List UInt8) : (readV l).2 = 0 ∧ plainV (readV l).1 = true ∨ readV l = ({}, 30) := by
  unfold readV
  split
  · exact .inl ⟨rfl, plain_zero⟩
  split
  · exact .inr rfl
  split
  · rename_i h
    rcases read_three l with ⟨p, hp, hr⟩ | e | e
    · rw [hp]; exact .inl ⟨rfl, plain_num hr⟩
    · rw [e] at h; exact absurd h (by decide)
    · rw [e] at h; exact absurd h (by decide)
  split
  · exact .inl ⟨rfl, plain_tr _⟩
  split
  · rename_i i hi
    have := List.mem_of_find?_eq_some hi
    simp only [List.mem_cons, List.not_mem_nil, or_false] at this
    exact .inl ⟨rfl, plain_err (by omega) (by omega)⟩
  split
  · rename_i h
    exact .inl ⟨rfl, plain_txt h⟩
  · exact .inr rfl
theorem plain_kind {x : Vl} (h : plainV x = true) : x.k ≠ 5 ∧ x.k ≠ 6 := by
  rcases plain_cases h with e | ⟨p, e, _⟩ | ⟨s, e, _⟩ | ⟨b, e⟩ | ⟨n, e, _⟩ <;> subst e <;> exact ⟨(by intro e; cases e), (by intro e; cases e)⟩
theorem right_plain {x : Vl} (n : Nat) (h5 : x.k ≠ 5) (h6 : x.k ≠ 6) : rightV (n + 1) x = plainV x := by
  rw [rightV, if_neg h5, if_neg h6]
theorem right_of_plain {x : Vl} (n : Nat) (h : plainV x = true) : rightV (n + 1) x = true := by
  rw [right_plain n (plain_kind h).1 (plain_kind h).2, h]
theorem plain_two {x : Vl} (h : plainV x = true) (hk : x.k = 2) : x = txtV x.s ∧ txtOk x.s = true := by
  rcases plain_cases h with e | ⟨p, e, _⟩ | ⟨s, e, hs⟩ | ⟨b, e⟩ | ⟨n, e, _⟩
  · subst e; cases hk
  · subst e; cases hk
  · subst e; exact ⟨rfl, hs⟩
  · subst e; cases hk
  · subst e; cases hk
theorem read_num {x y : Int} (h : RightP (x, y)) : readV (textR x y) = (numV (x, y), 0) := by
  obtain ⟨_, h2, _, _⟩ := text_plain h
  obtain ⟨c, r, e, hc⟩ := read_fig h2
  unfold readV
  rw [if_neg (by rw [e]; simp), if_neg (by rw [e]; simp; rintro rfl; revert hc; decide), h2, if_pos rfl]
theorem read_truth (b : Bool) : readV (if b then TRUEL else FALSEL) = (trV b, 0) := by
  cases b
  · show readV FALSEL = _
    unfold readV
    rw [if_neg (by decide), if_neg (by decide), if_neg (show ¬ (readD FALSEL).2 = 0 from not_num _ (by decide)), show truthL FALSEL = some false by decide]
  · show readV TRUEL = _
    unfold readV
    rw [if_neg (by decide), if_neg (by decide), if_neg (show ¬ (readD TRUEL).2 = 0 from not_num _ (by decide)), show truthL TRUEL = some true by decide]
theorem errL_at {n : Nat} (h1 : 1 ≤ n) (h2 : n ≤ 9) : ∃ r, errL n = 35 :: r ∧ errF (errL n) = some n := by
  rcases (show n = 1 ∨ n = 2 ∨ n = 3 ∨ n = 4 ∨ n = 5 ∨ n = 6 ∨ n = 7 ∨ n = 8 ∨ n = 9 by omega) with e | e | e | e | e | e | e | e | e <;> subst e <;> exact ⟨_, rfl, by decide⟩
theorem read_err {n : Nat} (h1 : 1 ≤ n) (h2 : n ≤ 9) : readV (errL n) = (errV n, 0) := by
  obtain ⟨r, e, hf⟩ := errL_at h1 h2
  unfold readV
  rw [hf, e, if_neg (by simp), if_neg (by simp), if_neg (not_num r (by decide)), truth_none r (by decide) (by decide)]
/-- The stage's theorem: what is written of a plain value is read as that value. -/
theorem back_plain {x : Vl} (n : Nat) (h : plainV x = true) : (textV (n + 1) x).2 = 0 ∧ readV (textV (n + 1) x).1 = (x, 0) := by
  have h56 := plain_kind h
  unfold textV
  rw [if_pos (right_of_plain n h)]
  refine ⟨rfl, ?_⟩
  rw [if_neg h56.2]
  by_cases h2 : x.k = 2
  · rw [if_pos h2]
    obtain ⟨hx, hok⟩ := plain_two h h2
    split
    · rename_i hc
      rcases readV_two x.s.data.toList with ⟨_, hp⟩ | e
      · refine Prod.ext ?_ hc.1
        rw [(plain_two hp hc.2.1).1, hc.2.2]
        exact hx.symm
      · rw [e] at hc; exact absurd hc.1 (by decide)
    · show readV (39 :: x.s.data.toList) = _
      rw [read_quote, mk_self, if_pos hok, ← hx]
  · rw [if_neg h2, if_neg h56.1]
    rcases plain_cases h with e | ⟨p, e, hr⟩ | ⟨s, e, hs⟩ | ⟨b, e⟩ | ⟨n, e, h1, h2⟩
    · subst e; rfl
    · subst e
      show readV (textD p.1 p.2).1 = _
      rw [(text_plain (x := p.1) (y := p.2) hr).1]
      exact read_num hr
    · subst e; exact absurd rfl h2
    · subst e
      exact read_truth b
    · subst e
      show readV (errL n.toNat) = _
      rw [read_err (by omega) (by omega)]
      rw [show ((n.toNat : Nat) : Int) = n by omega]
end Go.Proofs.YtkhohjdakcchdaaGreatDoor
/- What is told of values is right, and is told again as the same; arrays one by one; what stands where. Plain: no program. -/
namespace Go.Proofs.YtkhohjdakcchdaaGreatDoor
open Go

theorem txt_shown {x y : Int} (h : RightP (x, y)) : txtOk (mk (textR x y)) = true := by
  unfold txtOk
  rw [mk_list, shown_fig h, Bool.and_true, decide_eq_true_eq]
  show (textR x y).length ≤ 200
  have := (text_plain h).2.2.2
  omega
theorem tru_right (b : Bool) : RightP (truI b, 0) := by cases b <;> simp [RightP, truI]
theorem numT_plain {x : Vl} (h : plainV x = true) : plainV (numT x) = true := by
  rcases plain_cases h with e | ⟨p, e, hr⟩ | ⟨s, e, hs⟩ | ⟨b, e⟩ | ⟨n, e, h1, h2⟩
  · subst e; exact plain_num right_nought
  · subst e; exact plain_num hr
  · subst e
    show plainV (if (readD s.data.toList).2 = 0 then numV (readD s.data.toList).1 else errV 3) = true
    split
    · rename_i h0
      rcases read_three s.data.toList with ⟨p, hp, hr⟩ | e | e
      · rw [hp]; exact plain_num hr
      · rw [e] at h0; exact absurd h0 (by decide)
      · rw [e] at h0; exact absurd h0 (by decide)
    · exact plain_err (by decide) (by decide)
  · subst e
    exact plain_num (tru_right b)
  · subst e; exact plain_err h1 h2
/-- A number or an error. -/
theorem numT_two {x : Vl} (h : plainV x = true) : (∃ p, numT x = numV p ∧ RightP p) ∨ (∃ n, numT x = errV n ∧ 1 ≤ n ∧ n ≤ 9) := by
  rcases plain_cases h with e | ⟨p, e, hr⟩ | ⟨s, e, hs⟩ | ⟨b, e⟩ | ⟨n, e, h1, h2⟩
  · subst e; exact .inl ⟨_, rfl, right_nought⟩
  · subst e; exact .inl ⟨_, rfl, hr⟩
  · subst e
    show (∃ p, (if (readD s.data.toList).2 = 0 then numV (readD s.data.toList).1 else errV 3) = numV p ∧ RightP p) ∨ (∃ n, (if (readD s.data.toList).2 = 0 then numV (readD s.data.toList).1 else errV 3) = errV n ∧ 1 ≤ n ∧ n ≤ 9)
    split
    · rename_i h0
      rcases read_three s.data.toList with ⟨p, hp, hr⟩ | e | e
      · rw [hp]; exact .inl ⟨_, rfl, hr⟩
      · rw [e] at h0; exact absurd h0 (by decide)
      · rw [e] at h0; exact absurd h0 (by decide)
    · exact .inr ⟨_, rfl, by decide, by decide⟩
  · subst e
    exact .inl ⟨_, rfl, tru_right b⟩
  · subst e; exact .inr ⟨_, rfl, h1, h2⟩
theorem txtT_plain {x : Vl} (h : plainV x = true) : plainV (txtT x) = true := by
  rcases plain_cases h with e | ⟨p, e, hr⟩ | ⟨s, e, hs⟩ | ⟨b, e⟩ | ⟨n, e, h1, h2⟩
  · subst e; exact plain_txt (by decide)
  · subst e
    show plainV (txtV (mk (textD p.1 p.2).1)) = true
    rw [(text_plain (x := p.1) (y := p.2) hr).1]
    exact plain_txt (txt_shown hr)
  · subst e; exact plain_txt hs
  · subst e; cases b <;> exact plain_txt (by decide)
  · subst e; exact plain_err h1 h2
theorem txtT_two {x : Vl} (h : plainV x = true) : (∃ s, txtT x = txtV s) ∨ (∃ n, txtT x = errV n) := by
  rcases plain_cases h with e | ⟨p, e, hr⟩ | ⟨s, e, hs⟩ | ⟨b, e⟩ | ⟨n, e, h1, h2⟩ <;> subst e
  · exact .inl ⟨_, rfl⟩
  · exact .inl ⟨_, rfl⟩
  · exact .inl ⟨_, rfl⟩
  · exact .inl ⟨_, rfl⟩
  · exact .inr ⟨_, rfl⟩
theorem truT_two {x : Vl} (h : plainV x = true) : (∃ b, truT x = trV b) ∨ (∃ n, truT x = errV n ∧ 1 ≤ n ∧ n ≤ 9) := by
  rcases plain_cases h with e | ⟨p, e, hr⟩ | ⟨s, e, hs⟩ | ⟨b, e⟩ | ⟨n, e, h1, h2⟩
  · subst e; exact .inl ⟨_, rfl⟩
  · subst e; exact .inl ⟨_, rfl⟩
  · subst e
    show (∃ b, (match truthL s.data.toList with | some b => trV b | none => errV 3) = trV b) ∨ (∃ n, (match truthL s.data.toList with | some b => trV b | none => errV 3) = errV n ∧ 1 ≤ n ∧ n ≤ 9)
    cases truthL s.data.toList with
    | some b => exact .inl ⟨_, rfl⟩
    | none => exact .inr ⟨_, rfl, by decide, by decide⟩
  · subst e; exact .inl ⟨_, rfl⟩
  · subst e; exact .inr ⟨_, rfl, h1, h2⟩
theorem truT_plain {x : Vl} (h : plainV x = true) : plainV (truT x) = true := by
  rcases truT_two h with ⟨b, e⟩ | ⟨n, e, h1, h2⟩ <;> rw [e]
  · exact plain_tr b
  · exact plain_err h1 h2
theorem numT_again {x : Vl} (h : plainV x = true) : numT (numT x) = numT x := by
  rcases numT_two h with ⟨p, e, _⟩ | ⟨n, e, _⟩ <;> rw [e] <;> rfl
theorem txtT_again {x : Vl} (h : plainV x = true) : txtT (txtT x) = txtT x := by
  rcases txtT_two h with ⟨p, e⟩ | ⟨n, e⟩ <;> rw [e] <;> rfl
theorem truT_again {x : Vl} (h : plainV x = true) : truT (truT x) = truT x := by
  rcases truT_two h with ⟨p, e⟩ | ⟨n, e, _⟩ <;> rw [e] <;> rfl
theorem num_of_txt {x : Vl} (h : plainV x = true) : numT (txtT (numT x)) = numT x := by
  rcases numT_two h with ⟨p, e, hr⟩ | ⟨n, e, _⟩ <;> rw [e]
  · show (if (readD (mk (textD p.1 p.2).1).data.toList).2 = 0 then numV (readD (mk (textD p.1 p.2).1).data.toList).1 else errV 3) = numV p
    obtain ⟨h1, h2, _⟩ := text_plain (x := p.1) (y := p.2) hr
    rw [h1, mk_list]
    show (if (readD (textR p.1 p.2)).2 = 0 then numV (readD (textR p.1 p.2)).1 else errV 3) = numV p
    rw [h2, if_pos rfl]
  · rfl
theorem tru_of_num {x : Vl} (h : plainV x = true) : truT (numT (truT x)) = truT x := by
  rcases truT_two h with ⟨p, e⟩ | ⟨n, e, _⟩ <;> rw [e]
  · cases p <;> rfl
  · rfl

/-- An array that is right. -/
theorem right_arr {n : Nat} {r c : Int} {l : List Vl} : rightV (n + 1) (arrV r c l) = true ↔ (1 ≤ r ∧ 1 ≤ c ∧ r ≤ 400 ∧ c ≤ 400 ∧ r * c ≤ 400 ∧ (l.length : Int) = r * c) ∧ ∀ x ∈ l, plainV x = true := by
  rw [rightV, if_pos (show (arrV r c l).k = 5 from rfl), Bool.and_eq_true, Bool.and_eq_true, List.all_eq_true]
  unfold dimsB
  rw [decide_eq_true_eq]
  constructor
  · rintro ⟨h1, _, h2⟩; exact ⟨h1, h2⟩
  · rintro ⟨h1, h2⟩; exact ⟨h1, by simp [bareV, arrV]; rfl, h2⟩
theorem each_plain {n : Nat} {f : Vl → Vl} {x : Vl} (h : plainV x = true) : eachV (n + 1) f x = f x := by
  unfold eachV
  rw [if_pos ⟨right_of_plain n h, (plain_kind h).2⟩, if_neg (plain_kind h).1]
theorem each_arr {n : Nat} {f : Vl → Vl} {r c : Int} {l : List Vl} (h : rightV (n + 1) (arrV r c l) = true) : eachV (n + 1) f (arrV r c l) = arrV r c (l.map f) := by
  unfold eachV
  rw [if_pos ⟨h, (by intro e; cases e)⟩, if_pos (show (arrV r c l).k = 5 from rfl)]; rfl
theorem map_right {n : Nat} {f : Vl → Vl} {r c : Int} {l : List Vl} (hf : ∀ x, plainV x = true → plainV (f x) = true) (h : rightV (n + 1) (arrV r c l) = true) : rightV (n + 1) (arrV r c (l.map f)) = true := by
  rw [right_arr] at h ⊢
  refine ⟨by rw [List.length_map]; exact h.1, fun x hx => ?_⟩
  obtain ⟨y, hy, rfl⟩ := List.mem_map.1 hx
  exact hf y (h.2 y hy)
/-- What is told twice. -/
theorem twice_arr {n : Nat} {f g h : Vl → Vl} {r c : Int} {l : List Vl} (hg : ∀ x, plainV x = true → plainV (g x) = true) (hh : ∀ x, plainV x = true → plainV (h x) = true)
    (hfg : ∀ x, plainV x = true → f (h (g x)) = g x) (hl : rightV (n + 1) (arrV r c l) = true) :
    eachV (n + 1) f (eachV (n + 1) h (eachV (n + 1) g (arrV r c l))) = eachV (n + 1) g (arrV r c l) := by
  have hl2 := map_right hg hl
  rw [each_arr hl, each_arr hl2, each_arr (map_right hh hl2)]
  rw [List.map_map, List.map_map]
  congr 1
  apply List.map_congr_left
  intro x hx
  exact hfg x ((right_arr.1 hl).2 x hx)
/-- Where in an array. -/
def atI (d i : Int) : Int := if d = 1 then 0 else i
theorem get_arr {n : Nat} {r c i j : Int} {l : List Vl} (h : rightV (n + 1) (arrV r c l) = true) (hi : 0 ≤ i) (hj : 0 ≤ j) :
    getV (n + 1) (arrV r c l) i j = if r ≤ atI r i ∨ c ≤ atI c j then errV 7 else l.getD (atI r i * c + atI c j).toNat {} := by
  unfold getV
  rw [if_pos h, if_neg (by omega), if_pos (show (arrV r c l).k = 5 from rfl)]
  rfl
theorem at_lt {r c i j : Int} (hi : 0 ≤ i) (hj : 0 ≤ j) (h : ¬ (r ≤ atI r i ∨ c ≤ atI c j)) : 0 ≤ atI r i * c + atI c j ∧ atI r i * c + atI c j < r * c := by
  have h1 : 0 ≤ atI r i := by unfold atI; split <;> omega
  have h2 : 0 ≤ atI c j := by unfold atI; split <;> omega
  generalize atI r i = a at *
  generalize atI c j = b at *
  have ha : a + 1 ≤ r := by omega
  have hc : 0 < c := by omega
  have := Int.mul_le_mul_of_nonneg_right ha (Int.le_of_lt hc)
  rw [Int.add_mul, Int.one_mul] at this
  have h3 := Int.mul_nonneg h1 (Int.le_of_lt hc)
  omega
theorem get_each {n : Nat} {f : Vl → Vl} {r c i j : Int} {l : List Vl} (hf : ∀ x, plainV x = true → plainV (f x) = true) (he : f (errV 7) = errV 7) (h : rightV (n + 1) (arrV r c l) = true) (hi : 0 ≤ i) (hj : 0 ≤ j) :
    getV (n + 1) (eachV (n + 1) f (arrV r c l)) i j = eachV (n + 1) f (getV (n + 1) (arrV r c l) i j) := by
  rw [each_arr h, get_arr (map_right hf h) hi hj, get_arr h hi hj]
  by_cases hc : r ≤ atI r i ∨ c ≤ atI c j
  · rw [if_pos hc, if_pos hc, each_plain (plain_err (by decide) (by decide)), he]
  · rw [if_neg hc, if_neg hc]
    obtain ⟨h1, h2⟩ := at_lt hi hj hc
    have hr := right_arr.1 h
    have hlt : (atI r i * c + atI c j).toNat < l.length := by
      have := hr.1.2.2.2.2.2
      omega
    rw [List.getD_eq_getElem?_getD, List.getD_eq_getElem?_getD, List.getElem?_map, List.getElem?_eq_getElem hlt]
    exact (each_plain (hr.2 _ (List.getElem_mem hlt))).symm
/-- What was put in stands there. -/
theorem get_made {n : Nat} {r c : Int} {l : List Vl} (h : rightV (n + 1) (arrV r c l) = true) {k : Nat} (hk : k < l.length) :
    getV (n + 1) (arrV r c l) ((k : Int) / c) ((k : Int) % c) = l.getD k {} := by
  have hr := (right_arr.1 h).1
  have hc : 0 < c := by omega
  have hm0 := Int.emod_nonneg (k : Int) (show c ≠ 0 by omega)
  have hm1 := Int.emod_lt_of_pos (k : Int) hc
  have hd0 := Int.ediv_nonneg (show (0 : Int) ≤ k by omega) (Int.le_of_lt hc)
  have hd1 : (k : Int) / c < r := by
    apply Int.ediv_lt_of_lt_mul hc
    omega
  have a1 : atI r ((k : Int) / c) = (k : Int) / c := by unfold atI; split <;> omega
  have a2 : atI c ((k : Int) % c) = (k : Int) % c := by unfold atI; split <;> omega
  rw [get_arr h hd0 hm0, a1, a2, if_neg (by omega)]
  have := Int.mul_ediv_add_emod (k : Int) c
  rw [Int.mul_comm] at this
  rw [this]; rfl
theorem get_down {n : Nat} {r c f : Int} {l : List Vl} (h : rightV (n + 1) (arrV r c l) = true) (hf : 0 ≤ f) :
    getV (n + 1) (arrV r c l) (r + f) 0 = if r = 1 then l.getD 0 {} else errV 7 := by
  have hr := (right_arr.1 h).1
  rw [get_arr h (by omega) (by omega)]
  have a2 : atI c 0 = 0 := by unfold atI; split <;> rfl
  by_cases h1 : r = 1
  · have a1 : atI r (r + f) = 0 := by unfold atI; rw [if_pos h1]
    rw [a1, a2, if_neg (by omega), if_pos h1]
    simp
  · have a1 : atI r (r + f) = r + f := by unfold atI; rw [if_neg h1]
    rw [a1, a2, if_pos (by omega), if_neg h1]
theorem get_along {n : Nat} {r c f : Int} {l : List Vl} (h : rightV (n + 1) (arrV r c l) = true) (hf : 0 ≤ f) :
    getV (n + 1) (arrV r c l) 0 (c + f) = if c = 1 then l.getD 0 {} else errV 7 := by
  have hr := (right_arr.1 h).1
  rw [get_arr h (by omega) (by omega)]
  have a2 : atI r 0 = 0 := by unfold atI; split <;> rfl
  by_cases h1 : c = 1
  · have a1 : atI c (c + f) = 0 := by unfold atI; rw [if_pos h1]
    rw [a1, a2, if_neg (by omega), if_pos h1]
    simp
  · have a1 : atI c (c + f) = c + f := by unfold atI; rw [if_neg h1]
    rw [a1, a2, if_pos (by omega), if_neg h1]
end Go.Proofs.YtkhohjdakcchdaaGreatDoor
/- Values are in one order. Plain: no program. -/
namespace Go.Proofs.YtkhohjdakcchdaaGreatDoor
open Go

/-- In one order, of those of S. -/
def Cmp3 {α : Type} (S : α → Prop) (f : α → α → Int) : Prop :=
  (∀ x y, S x → S y → -1 ≤ f x y ∧ f x y ≤ 1 ∧ f y x = - f x y) ∧ (∀ x y z, S x → S y → S z → f x y ≤ 0 → f y z ≤ 0 → f x z ≤ 0 ∧ (f x z = 0 → f x y = 0 ∧ f y z = 0))
theorem ordI_cmp (x y z : Int) : (-1 ≤ ordI x y ∧ ordI x y ≤ 1 ∧ ordI y x = - ordI x y) ∧ (ordI x y ≤ 0 → ordI y z ≤ 0 → ordI x z ≤ 0 ∧ (ordI x z = 0 → ordI x y = 0 ∧ ordI y z = 0)) := by
  unfold ordI
  refine ⟨?_, fun h1 h2 => ?_⟩
  · (repeat' split) <;> omega
  · revert h1 h2
    (repeat' split) <;> omega
theorem ordI_zero {x y : Int} : ordI x y = 0 ↔ x = y := by
  unfold ordI
  (repeat' split) <;> omega
theorem Cmp3.key {α : Type} {S : α → Prop} (k : α → Int) : Cmp3 S (fun x y => ordI (k x) (k y)) :=
  ⟨fun x y _ _ => (ordI_cmp (k x) (k y) 0).1, fun x y z _ _ _ => (ordI_cmp (k x) (k y) (k z)).2⟩
theorem Cmp3.congr {α : Type} {S : α → Prop} {f g : α → α → Int} (h : Cmp3 S g) (e : ∀ x y, S x → S y → f x y = g x y) : Cmp3 S f :=
  ⟨fun x y hx hy => by rw [e x y hx hy, e y x hy hx]; exact h.1 x y hx hy, fun x y z hx hy hz => by rw [e x y hx hy, e y z hy hz, e x z hx hz]; exact h.2 x y z hx hy hz⟩
theorem Cmp3.sub {α : Type} {S T : α → Prop} {f : α → α → Int} (h : Cmp3 T f) (e : ∀ x, S x → T x) : Cmp3 S f :=
  ⟨fun x y hx hy => h.1 x y (e x hx) (e y hy), fun x y z hx hy hz => h.2 x y z (e x hx) (e y hy) (e z hz)⟩
/-- First by g, then by h. -/
theorem Cmp3.lex {α : Type} {S : α → Prop} {g : α → Int} {h : α → α → Int} (hh : ∀ k, Cmp3 (fun x => S x ∧ g x = k) h) :
    Cmp3 S (fun x y => if g x = g y then h x y else ordI (g x) (g y)) := by
  refine ⟨fun x y hx hy => ?_, fun x y z hx hy hz => ?_⟩
  · by_cases e : g x = g y
    · simp only [if_pos e, if_pos e.symm]
      exact (hh (g x)).1 x y ⟨hx, rfl⟩ ⟨hy, e.symm⟩
    · simp only [if_neg e, if_neg (fun h => e (Eq.symm h))]
      exact (ordI_cmp (g x) (g y) 0).1
  · have hz1 := @ordI_zero (g x) (g y)
    have hz2 := @ordI_zero (g y) (g z)
    have hz3 := @ordI_zero (g x) (g z)
    have ho := (ordI_cmp (g x) (g y) (g z)).2
    by_cases e1 : g x = g y
    · by_cases e2 : g y = g z
      · have e3 := e1.trans e2
        simp only [if_pos e1, if_pos e2, if_pos e3]
        exact (hh (g y)).2 x y z ⟨hx, e1⟩ ⟨hy, rfl⟩ ⟨hz, e2.symm⟩
      · have e3 : ¬ g x = g z := by rw [e1]; exact e2
        simp only [if_pos e1, if_neg e2, if_neg e3]
        rw [e1]
        omega
    · by_cases e2 : g y = g z
      · have e3 : ¬ g x = g z := by rw [← e2]; exact e1
        simp only [if_neg e1, if_pos e2, if_neg e3]
        rw [← e2]
        omega
      · simp only [if_neg e1, if_neg e2]
        intro h1 h2
        obtain ⟨h3, h4⟩ := ho h1 h2
        have h5 : ¬ ordI (g x) (g z) = 0 := fun h => e1 (hz1.1 (h4 h).1)
        have h6 : ¬ g x = g z := fun h => h5 (hz3.2 h)
        simp only [if_neg h6]
        exact ⟨h3, fun h => absurd h h5⟩
theorem bytes_cmp : Cmp3 (fun _ => True) Lib.compareBytes := by
  have h1 : ∀ x y : List UInt8, -1 ≤ Lib.compareBytes x y ∧ Lib.compareBytes x y ≤ 1 ∧ Lib.compareBytes y x = - Lib.compareBytes x y := by
    intro x
    induction x with
    | nil => intro y; cases y <;> simp [Lib.compareBytes]
    | cons a l ih =>
      intro y
      cases y with
      | nil => simp [Lib.compareBytes]
      | cons b r =>
        have := ih r
        unfold Lib.compareBytes
        simp only [UInt8.lt_iff_toNat_lt]
        (repeat' split) <;> omega
  refine ⟨fun x y _ _ => h1 x y, fun x y z hx hy hz => ?_⟩
  clear hx hy hz
  induction x generalizing y z with
  | nil =>
    cases z with
    | nil => cases y <;> simp [Lib.compareBytes]
    | cons c t => cases y <;> simp [Lib.compareBytes]
  | cons a l ih =>
    cases y with
    | nil => simp [Lib.compareBytes]
    | cons b r =>
      cases z with
      | nil => simp [Lib.compareBytes]
      | cons c t =>
        have := ih r t
        have l1 := h1 l r
        have l2 := h1 r t
        have l3 := h1 l t
        unfold Lib.compareBytes
        simp only [UInt8.lt_iff_toNat_lt]
        (repeat' split) <;> omega
/-- Of one kind. -/
def kindV (x y : Vl) : Int :=
  if x.k = 1 then cmpD x.m x.e y.m y.e else if x.k = 2 then Lib.compareBytes (lowL x.s.data.toList) (lowL y.s.data.toList)
  else if x.k = 3 then ordI (truI x.b) (truI y.b) else if x.k = 4 then ordI x.err y.err else 0
theorem oneV_lex (x y : Vl) : oneV x y = if x.k = y.k then kindV x y else ordI x.k y.k := by
  unfold oneV kindV
  by_cases h : x.k = y.k
  · rw [if_neg (by simpa using h), if_pos h]
  · rw [if_pos h, if_neg h]
theorem plain_right {x : Vl} (h : plainV x = true) (hk : x.k = 1) : RightP (x.m, x.e) := by
  rcases plain_cases h with e | ⟨p, e, hr⟩ | ⟨s, e, hs⟩ | ⟨b, e⟩ | ⟨n, e, _⟩
  · subst e; cases hk
  · subst e; exact hr
  · subst e; cases hk
  · subst e; cases hk
  · subst e; cases hk
theorem zero_cmp {α : Type} {S : α → Prop} : Cmp3 S (fun _ _ => 0) := ⟨fun _ _ _ _ => by simp, fun _ _ _ _ _ _ _ _ => by simp⟩
theorem kind_cmp (k : Int) : Cmp3 (fun x => plainV x = true ∧ x.k = k) kindV := by
  by_cases h1 : k = 1
  · refine (Cmp3.key (fun x : Vl => valZ (x.m, x.e))).congr fun x y hx hy => ?_
    unfold kindV
    rw [if_pos (hx.2.trans h1), cmpD_Z (plain_right hx.1 (hx.2.trans h1)) (plain_right hy.1 (hy.2.trans h1))]
    unfold ordI
    (repeat' split) <;> omega
  by_cases h2 : k = 2
  · have hb : Cmp3 (fun x : Vl => plainV x = true ∧ x.k = k) (fun x y => Lib.compareBytes (lowL x.s.data.toList) (lowL y.s.data.toList)) :=
      ⟨fun x y _ _ => bytes_cmp.1 _ _ trivial trivial, fun x y z _ _ _ => bytes_cmp.2 _ _ _ trivial trivial trivial⟩
    refine hb.congr fun x y hx _ => ?_
    unfold kindV
    rw [if_neg (by omega), if_pos (by omega)]
  by_cases h3 : k = 3
  · refine (Cmp3.key (fun x : Vl => truI x.b)).congr fun x y hx hy => ?_
    unfold kindV
    rw [if_neg (by omega), if_neg (by omega), if_pos (by omega)]
  by_cases h4 : k = 4
  · refine (Cmp3.key (fun x : Vl => x.err)).congr fun x y hx hy => ?_
    unfold kindV
    rw [if_neg (by omega), if_neg (by omega), if_neg (by omega), if_pos (by omega)]
  · refine zero_cmp.congr fun x y hx _ => ?_
    unfold kindV
    rw [if_neg (by omega), if_neg (by omega), if_neg (by omega), if_neg (by omega)]
theorem one_cmp : Cmp3 (fun x => plainV x = true) oneV := (Cmp3.lex (g := fun x : Vl => x.k) (h := kindV) kind_cmp).congr fun x y _ _ => oneV_lex x y
theorem list_cmp : Cmp3 (fun l : List Vl => ∀ x ∈ l, plainV x = true) oneL := by
  have h1 : ∀ x y : List Vl, (∀ a ∈ x, plainV a = true) → (∀ a ∈ y, plainV a = true) → -1 ≤ oneL x y ∧ oneL x y ≤ 1 ∧ oneL y x = - oneL x y := by
    intro x
    induction x with
    | nil => intro y _ _; cases y <;> simp [oneL]
    | cons a l ih =>
      intro y hx hy
      cases y with
      | nil => simp [oneL]
      | cons b r =>
        have := ih r (fun a h => hx a (List.mem_cons_of_mem _ h)) (fun a h => hy a (List.mem_cons_of_mem _ h))
        have ho := one_cmp.1 a b (hx a List.mem_cons_self) (hy b List.mem_cons_self)
        rw [oneL, oneL]
        (repeat' split) <;> omega
  refine ⟨h1, fun x y z => ?_⟩
  induction x generalizing y z with
  | nil =>
    intro _ _ _
    cases z with
    | nil => cases y <;> simp [oneL]
    | cons c t => cases y <;> simp [oneL]
  | cons a l ih =>
    intro hx hy hz
    cases y with
    | nil => simp [oneL]
    | cons b r =>
      cases z with
      | nil => simp [oneL]
      | cons c t =>
        have tx := fun a h => hx a (List.mem_cons_of_mem _ h)
        have ty := fun a h => hy a (List.mem_cons_of_mem _ h)
        have tz := fun a h => hz a (List.mem_cons_of_mem _ h)
        have := ih r t tx ty tz
        have ha := hx a List.mem_cons_self
        have hb := hy b List.mem_cons_self
        have hc := hz c List.mem_cons_self
        have l1 := h1 l r tx ty
        have l2 := h1 r t ty tz
        have l3 := h1 l t tx tz
        have o1 := one_cmp.2 a b c ha hb hc
        have o2 := one_cmp.1 a b ha hb
        have o3 := one_cmp.1 b c hb hc
        have o4 := one_cmp.2 b a c hb ha hc
        have o5 := one_cmp.2 a c b ha hc hb
        have o6 := one_cmp.1 a c ha hc
        rw [oneL, oneL, oneL]
        clear h1 ih
        (repeat' split) <;> omega
/-- Of one kind, arrays as well. -/
def kindA (x y : Vl) : Int := if x.k = 5 then (if x.rows = y.rows then (if x.cols = y.cols then oneL x.l y.l else ordI x.cols y.cols) else ordI x.rows y.rows) else kindV x y
def ArrP (x : Vl) : Prop := plainV x = true ∨ (x.k = 5 ∧ rightV 1 x = true)
theorem ArrP.right {x : Vl} (h : ArrP x) (n : Nat) : rightV (n + 1) x = true := by
  rcases h with h | ⟨h, h2⟩
  · exact right_of_plain n h
  · rw [rightV, if_pos h] at h2 ⊢; exact h2
theorem cmpV_lex {n : Nat} {x y : Vl} (hx : ArrP x) (hy : ArrP y) : cmpV (n + 1) x y = if x.k = y.k then kindA x y else ordI x.k y.k := by
  unfold cmpV
  rw [if_pos ⟨hx.right n, hy.right n⟩]
  unfold kindA
  by_cases h : x.k = y.k
  · rw [if_pos h]
    by_cases h5 : x.k = 5
    · rw [if_pos ⟨h5, h ▸ h5⟩, if_pos h5]
      by_cases hr : x.rows = y.rows
      · rw [if_neg (by simpa using hr), if_pos hr]
        by_cases hc : x.cols = y.cols
        · rw [if_neg (by simpa using hc), if_pos hc]
        · rw [if_pos hc, if_neg hc]
      · rw [if_pos hr, if_neg hr]
    · rw [if_neg (by simp [h5]), if_neg h5, oneV_lex, if_pos h]
  · rw [if_neg h, if_neg (by rintro ⟨a, b⟩; exact h (a.trans b.symm)), oneV_lex, if_neg h]
theorem right_list {x : Vl} (h5 : x.k = 5) (h : ArrP x) : ∀ a ∈ x.l, plainV a = true := by
  rcases h with h | ⟨_, h2⟩
  · exact absurd h5 (plain_kind h).1
  · rw [rightV, if_pos h5, Bool.and_eq_true, Bool.and_eq_true, List.all_eq_true] at h2
    exact h2.2.2
theorem cmp_cmp (n : Nat) : Cmp3 ArrP (cmpV (n + 1)) := by
  refine (Cmp3.lex (g := fun x : Vl => x.k) (h := kindA) fun k => ?_).congr fun x y hx hy => cmpV_lex hx hy
  by_cases h5 : k = 5
  · have hl : Cmp3 (fun x : Vl => ArrP x ∧ x.k = k) (fun x y => oneL x.l y.l) :=
      ⟨fun x y hx hy => list_cmp.1 _ _ (right_list (hx.2.trans h5) hx.1) (right_list (hy.2.trans h5) hy.1), fun x y z hx hy hz => list_cmp.2 _ _ _ (right_list (hx.2.trans h5) hx.1) (right_list (hy.2.trans h5) hy.1) (right_list (hz.2.trans h5) hz.1)⟩
    refine (Cmp3.lex (g := fun x : Vl => x.rows) (h := fun x y => if x.cols = y.cols then oneL x.l y.l else ordI x.cols y.cols) fun r => ?_).congr fun x y hx _ => ?_
    · exact Cmp3.lex (g := fun x : Vl => x.cols) (h := fun x y => oneL x.l y.l) fun c => hl.sub fun x hx => hx.1.1
    · unfold kindA
      rw [if_pos (hx.2.trans h5)]
  · refine ((kind_cmp k).sub (S := fun x => ArrP x ∧ x.k = k) fun x hx => ⟨?_, hx.2⟩).congr fun x y hx _ => ?_
    · rcases hx.1 with h | ⟨h, _⟩
      · exact h
      · exact absurd (hx.2.symm.trans h) h5
    · unfold kindA
      rw [if_neg (by rw [hx.2]; exact h5)]
/-- What the law asks of three. -/
theorem order_three {n : Nat} {x y z : Vl} (hx : ArrP x) (hy : ArrP y) (hz : ArrP z) :
    cmpV (n + 1) y x = - cmpV (n + 1) x y ∧ cmpV (n + 1) z y = - cmpV (n + 1) y z ∧ cmpV (n + 1) x x = 0 ∧ -1 ≤ cmpV (n + 1) x y ∧ cmpV (n + 1) x y ≤ 1 ∧
    (cmpV (n + 1) x y ≤ 0 → cmpV (n + 1) y z ≤ 0 → cmpV (n + 1) x z ≤ 0 ∧ (cmpV (n + 1) x z = 0 → cmpV (n + 1) x y = 0 ∧ cmpV (n + 1) y z = 0)) ∧ (cmpV (n + 1) x y = 0 → cmpV (n + 1) x z = cmpV (n + 1) y z) := by
  obtain ⟨h1, h2⟩ := cmp_cmp n
  have a := h1 x y hx hy
  have b := h1 y z hy hz
  have c := h1 x z hx hz
  have d := h1 x x hx hx
  have t1 := h2 x y z hx hy hz
  have t2 := h2 y x z hy hx hz
  have t3 := h2 z y x hz hy hx
  have t4 := h2 z x y hz hx hy
  refine ⟨a.2.2, b.2.2, by omega, a.1, a.2.1, t1, fun e => ?_⟩
  omega
end Go.Proofs.YtkhohjdakcchdaaGreatDoor
/- Quotes doubled; an array's text, row by row. Plain: no program. -/
namespace Go.Proofs.YtkhohjdakcchdaaGreatDoor
open Go

def dbl (l : List UInt8) : List UInt8 := l.flatMap fun c => if c = 34 then [34, 34] else [c]
theorem dbl_none : ∀ {l : List UInt8}, (∀ c ∈ l, c ≠ 34) → dbl l = l
  | [], _ => rfl
  | c :: l, h => by
    have h1 := h c List.mem_cons_self
    have h2 := dbl_none fun c hc => h c (List.mem_cons_of_mem _ hc)
    unfold dbl at h2 ⊢
    rw [List.flatMap_cons, h2, if_neg h1]; rfl
theorem dbl_at (a b : List UInt8) (h : ∀ c ∈ a, c ≠ 34) : dbl (a ++ 34 :: b) = a ++ [34, 34] ++ dbl b := by
  have := dbl_none h
  unfold dbl at this ⊢
  rw [List.flatMap_append, this, List.flatMap_cons, if_pos rfl, List.append_assoc]
theorem dbl_len (l : List UInt8) : (dbl l).length ≤ 2 * l.length := by
  induction l with
  | nil => exact Nat.le_refl _
  | cons c l ih =>
    have e : dbl (c :: l) = (if c = 34 then [34, 34] else [c]) ++ dbl l := rfl
    rw [e, List.length_append, List.length_cons]
    split <;> simp <;> omega
theorem idx_no : ∀ l : List UInt8, (∀ c ∈ l, c ≠ 34) → Lib.index l [34] = -1
  | [], _ => rfl
  | c :: l, h => by
    have h1 := h c List.mem_cons_self
    have h2 := idx_no l fun c hc => h c (List.mem_cons_of_mem _ hc)
    rw [Lib.index, if_neg (by simp [List.isPrefixOf]; exact fun e => h1 e.symm), h2]; rfl
theorem idx_at (b : List UInt8) : ∀ a : List UInt8, (∀ c ∈ a, c ≠ 34) → Lib.index (a ++ 34 :: b) [34] = a.length
  | [], _ => by
    rw [List.nil_append, Lib.index, if_pos (by simp [List.isPrefixOf])]; rfl
  | c :: a, h => by
    have h1 := h c List.mem_cons_self
    have h2 := idx_at b a fun c hc => h c (List.mem_cons_of_mem _ hc)
    rw [List.cons_append, Lib.index, if_neg (by simp [List.isPrefixOf]; exact fun e => h1 e.symm), h2, if_neg (by simp)]
    simp
theorem split34 (l : List UInt8) : (∀ c ∈ l, c ≠ 34) ∨ ∃ a b, l = a ++ 34 :: b ∧ ∀ c ∈ a, c ≠ 34 := by
  induction l with
  | nil => left; simp
  | cons c l ih =>
    by_cases hc : c = 34
    · right; exact ⟨[], l, by rw [hc]; rfl, by simp⟩
    · rcases ih with h | ⟨a, b, e, h⟩
      · left
        intro d hd
        rcases List.mem_cons.1 hd with e | e
        · rw [e]; exact hc
        · exact h d e
      · right
        refine ⟨c :: a, b, by rw [e]; rfl, fun d hd => ?_⟩
        rcases List.mem_cons.1 hd with e | e
        · rw [e]; exact hc
        · exact h d e
theorem repK : ∀ (n : Nat) (l : List UInt8), l.length ≤ n → ∀ k, l.count 34 ≤ k → Lib.replaceK [34] [34, 34] k l = dbl l
  | n, l, hn, k, hk => by
    rcases split34 l with h | ⟨a, b, rfl, h⟩
    · rw [dbl_none h]
      cases k with
      | zero => rfl
      | succ k => rw [Lib.replaceK, idx_no l h]; rfl
    · cases n with
      | zero => simp at hn
      | succ n =>
        have hcnt : (a ++ 34 :: b).count 34 = a.count 34 + (b.count 34 + 1) := by rw [List.count_append, List.count_cons_self]
        cases k with
        | zero => omega
        | succ k =>
          rw [Lib.replaceK_hit _ _ _ _ _ (idx_at b a h), dbl_at a b h]
          have h1 : (a ++ 34 :: b).take a.length = a := List.take_left
          have h2 : (a ++ 34 :: b).drop (a.length + [(34 : UInt8)].length) = b := by
            rw [← List.drop_drop, List.drop_left]; rfl
          rw [h1, h2, repK n b (by simp at hn; omega) k (by omega)]
theorem cntF : ∀ (n : Nat) (l : List UInt8), l.length ≤ n → Lib.countFrom [34] n l = l.count 34
  | 0, l, hn => by
    have := List.eq_nil_of_length_eq_zero (Nat.le_zero.1 hn)
    subst this; rfl
  | n + 1, l, hn => by
    rcases split34 l with h | ⟨a, b, rfl, h⟩
    · rw [Lib.countFrom, idx_no l h]
      rw [List.count_eq_zero_of_not_mem fun hm => h 34 hm rfl]; rfl
    · rw [Lib.countFrom, idx_at b a h, if_neg (by simp)]
      have h2 : (a ++ 34 :: b).drop (((a.length : Nat) : Int).toNat + [(34 : UInt8)].length) = b := by
        rw [Int.toNat_natCast, ← List.drop_drop, List.drop_left]; rfl
      rw [h2, cntF n b (by simp at hn; omega), List.count_append, List.count_cons_self, List.count_eq_zero_of_not_mem fun hm => h 34 hm rfl]
      omega
theorem rep_dbl (l : List UInt8) : Lib.replaceAll l [34] [34, 34] = dbl l := by
  unfold Lib.replaceAll Lib.replace
  rw [if_neg (by decide)]
  unfold Lib.replaceNum
  rw [if_pos (.inl (by decide))]
  unfold Lib.count
  refine repK l.length l (Nat.le_refl _) _ ?_
  rw [cntF _ l (by omega)]
  exact Nat.le_refl _
theorem quotL_dbl (l : List UInt8) : quotL l = 34 :: (dbl l ++ [34]) := rfl
theorem join_len (sep : List UInt8) (B : Nat) : ∀ xs : List (List UInt8), (∀ x ∈ xs, x.length ≤ B) → (Lib.join xs sep).length ≤ xs.length * (B + sep.length)
  | [], _ => by rw [Lib.join_nil]; exact Nat.zero_le _
  | x :: r, h => by
    rw [Lib.join_cons, List.length_append, List.length_cons, Nat.add_mul]
    have h1 := h x List.mem_cons_self
    have h2 : ∀ r : List (List UInt8), (∀ x ∈ r, x.length ≤ B) → (Lib.joinTail sep r).length ≤ r.length * (B + sep.length) := by
      intro r
      induction r with
      | nil => intro _; exact Nat.zero_le _
      | cons y r ih =>
        intro h
        have := ih fun x hx => h x (List.mem_cons_of_mem _ hx)
        have hy := h y List.mem_cons_self
        have e : Lib.joinTail sep (y :: r) = (sep ++ y) ++ Lib.joinTail sep r := rfl
        rw [e, List.length_append, List.length_append, List.length_cons, Nat.add_mul]
        omega
    have := h2 r fun x hx => h x (List.mem_cons_of_mem _ hx)
    omega
theorem errL_len (n : Nat) : (errL n).length ≤ 8 := by unfold errL; split <;> decide
theorem cellL_len {x : Vl} (h : plainV x = true) : (cellL x).length ≤ 500 := by
  unfold cellL
  split
  · rename_i hk
    have hs := (plain_two h hk).2
    have : x.s.data.toList.length ≤ 200 := by
      unfold txtOk at hs
      simp at hs
      exact hs.1
    rw [quotL_dbl]
    have := dbl_len x.s.data.toList
    simp only [List.length_cons, List.length_append, List.length_nil]
    omega
  · rename_i hk
    rcases plain_cases h with e | ⟨p, e, hr⟩ | ⟨s, e, hs⟩ | ⟨b, e⟩ | ⟨n, e, _⟩ <;> subst e
    · exact Nat.zero_le _
    · show (textD p.1 p.2).1.length ≤ 500
      have := text_plain (x := p.1) (y := p.2) hr
      rw [this.1]
      have := this.2.2.2
      simp only
      omega
    · exact absurd rfl hk
    · cases b <;> decide
    · have := errL_len n.toNat
      show (errL n.toNat).length ≤ 500
      omega
/-- A row's text. -/
def rowT (c : Nat) (l : List Vl) (i : Nat) : List UInt8 := Lib.join (((l.drop (i * c)).take c).map cellL) [44]
theorem rows_range : ∀ (R n c : Nat) (l : List Vl), 1 ≤ c → l.length = R * c → R ≤ n → rowsF n c l = (List.range R).map (rowT c l)
  | 0, n, c, l, hc, hl, hn => by
    have : l = [] := List.eq_nil_of_length_eq_zero (by rw [hl, Nat.zero_mul])
    subst this
    cases n <;> rfl
  | R + 1, n, c, l, hc, hl, hn => by
    cases n with
    | zero => omega
    | succ n =>
      rw [Nat.add_mul, Nat.one_mul] at hl
      have hne : l ≠ [] := by
        intro e
        subst e
        simp at hl
        omega
      rw [rowsF, if_neg hne, List.range_succ_eq_map, List.map_cons, List.map_map, rows_range R n c (l.drop c) hc (by rw [List.length_drop]; omega) (by omega)]
      congr 1
      · unfold rowT
        rw [Nat.zero_mul, List.drop_zero]
      · apply List.map_congr_left
        intro i _
        show rowT c (l.drop c) i = rowT c l (i + 1)
        unfold rowT
        rw [List.drop_drop, Nat.add_mul, Nat.one_mul, Nat.add_comm c]
theorem arrL_rows {r c : Int} {l : List Vl} (h : rightV 1 (arrV r c l) = true) : arrL (arrV r c l) = 123 :: (Lib.join ((List.range r.toNat).map (rowT c.toNat l)) [59] ++ [125]) := by
  have hd := (right_arr.1 h).1
  have hl : l.length = r.toNat * c.toNat := by
    have h1 : ((r.toNat * c.toNat : Nat) : Int) = r * c := by
      rw [Int.natCast_mul, Int.toNat_of_nonneg (by omega), Int.toNat_of_nonneg (by omega)]
    omega
  unfold arrL
  rw [show (arrV r c l).l = l from rfl, show (arrV r c l).cols = c from rfl, rows_range r.toNat l.length c.toNat l (by omega) hl (by
    rw [hl]
    exact Nat.le_mul_of_pos_right _ (by omega))]
end Go.Proofs.YtkhohjdakcchdaaGreatDoor
/- What awake reckons with. Plain: no program. -/
namespace Go.Proofs.YtkhohjdakcchdaaGreatDoor
open Go

theorem r15 : RightP (15, -1) := by unfold RightP; omega
theorem r12 : RightP (12, 0) := by unfold RightP; omega
theorem lay15 : readN [49] [53, 48] = layD 15 (-1) := by decide +kernel
theorem lay12 : readN [49, 50] [] = layD 12 0 := by decide +kernel
theorem fig_a : figB [49] = true := by decide
theorem fig_b : figB [53, 48] = true := by decide
theorem fig_c : figB [49, 50] = true := by decide
theorem read15 : readD [49, 46, 53, 48] = ((15, -1), 0) := by
  have h := readD_of false (A := [49]) (P := [53, 48]) (m := true) fig_a (fun _ => fig_b) (fun e => by cases e)
  rw [lay15] at h
  exact h.trans (read_right (x := 15) (y := -1) r15)
theorem read12 : readD [49, 50] = ((12, 0), 0) := by
  have h := readD_of false (A := [49, 50]) (P := []) (m := false) fig_c (fun e => by cases e) (fun _ => rfl)
  rw [lay12] at h
  exact h.trans (read_right (x := 12) (y := 0) r12)
theorem shown15 : textR 15 (-1) = [49, 46, 53] := by decide +kernel
theorem text15 : (textD 15 (-1)).1 = [49, 46, 53] := by rw [(text_plain r15).1]; exact shown15
def s12 : ByteArray := mk [49, 50]
def aw : List Vl := [numV (15, -1), txtV s12, trV true, errV 7]
theorem ok12 : txtOk s12 = true := by decide
theorem aw_plain : ∀ x ∈ aw, plainV x = true := by
  intro x hx
  simp only [aw, List.mem_cons, List.not_mem_nil, or_false] at hx
  rcases hx with e | e | e | e <;> subst e
  · exact plain_num r15
  · exact plain_txt ok12
  · exact plain_tr true
  · exact plain_err (by decide) (by decide)
theorem aw_right (n : Nat) : rightV (n + 1) (arrV 2 2 aw) = true := right_arr.2 ⟨by decide, aw_plain⟩
theorem rd_q12 : readV [39, 49, 50] = (txtV s12, 0) := by
  rw [read_quote]
  rw [if_pos (show txtOk (mk [49, 50]) = true from ok12)]; rfl
theorem rd_12 : readV [49, 50] = (numV (12, 0), 0) := by
  unfold readV
  rw [if_neg (by decide), if_neg (by decide), read12, if_pos rfl]
theorem rd_eq1 : readV [61, 49] = ({}, 30) := rfl
theorem tx_12 : (textV 2 (txtV s12)).1 = [39, 49, 50] := by
  unfold textV
  rw [if_pos (right_of_plain 1 (plain_txt ok12))]
  show (if (readV [49, 50]).2 = 0 ∧ (readV [49, 50]).1.k = 2 ∧ (readV [49, 50]).1.s = s12 then [49, 50] else 39 :: [49, 50]) = _
  rw [rd_12, if_neg (by rintro ⟨_, h, _⟩; exact absurd h (by decide))]
theorem n_150 : numT (txtV (mk [49, 46, 53, 48])) = numV (15, -1) := by
  show (if (readD [49, 46, 53, 48]).2 = 0 then numV (readD [49, 46, 53, 48]).1 else errV 3) = _
  rw [read15, if_pos rfl]
theorem aw_text : arrL (arrV 2 2 aw) = [123, 49, 46, 53, 44, 34, 49, 50, 34, 59, 84, 82, 85, 69, 44, 35, 78, 47, 65, 125] := by
  have h1 : cellL (numV (15, -1)) = [49, 46, 53] := by
    show (textD 15 (-1)).1 = _
    exact text15
  have h2 : cellL (txtV s12) = [34, 49, 50, 34] := rfl
  have h3 : cellL (trV true) = [84, 82, 85, 69] := rfl
  have h4 : cellL (errV 7) = [35, 78, 47, 65] := rfl
  unfold arrL
  show 123 :: (Lib.join (rowsF 4 2 aw) [59] ++ [125]) = _
  have hr : rowsF 4 2 aw = [Lib.join [cellL (numV (15, -1)), cellL (txtV s12)] [44], Lib.join [cellL (trV true), cellL (errV 7)] [44]] := rfl
  rw [hr, h1, h2, h3, h4]
  rfl
theorem cmp_aw : cmpV 2 (numV (15, -1)) (txtV s12) = -1 := by
  unfold cmpV
  rw [if_pos ⟨right_of_plain 1 (plain_num r15), right_of_plain 1 (plain_txt ok12)⟩]
  rfl
theorem get_aw : getV 2 (arrV 2 2 aw) 1 0 = trV true := by
  rw [get_arr (aw_right 1) (by decide) (by decide)]
  rfl
theorem txt_aw : txtT (numV (15, -1)) = txtV (mk [49, 46, 53]) := by
  show txtV (mk (textD 15 (-1)).1) = _
  rw [text15]
theorem tru_aw : truT (numV (15, -1)) = trV true := rfl
theorem ne_aw : ¬ arrV 2 2 aw = numV (15, -1) := fun e => by
  have := congrArg Vl.k e
  cases this
end Go.Proofs.YtkhohjdakcchdaaGreatDoor
