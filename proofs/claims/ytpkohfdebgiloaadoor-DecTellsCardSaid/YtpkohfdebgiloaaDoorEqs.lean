/- Two numbers held against each other, cell by cell. -/
import Derived.Test.YtpkohfdebgiloaaDoorPow
import Derived.ChangeKeysEq
import Derived.DeepKeys
namespace Go.Proofs.YtpkohfdebgiloaaDoor
open Go.RowKit Go.Shelf

def digs (f : Nat → Int) : Array Value := ((List.range 96).map (fun k => Value.int .i8 (f k))).toArray
theorem digs_at (f : Nat → Int) {k : Nat} (h : k < 96) : (digs f)[k]? = some (.int .i8 (f k)) := by simp [digs, h]
theorem cells53 : Tryd.prog.cellsOf 53 = 1 := by kernel_rfl
theorem plain53 : Tryd.prog.plainKey 53 = true := by kernel_rfl
theorem plain4 : Tryd.prog.plainKey 4 = true := by kernel_rfl
theorem info53 : ∃ i, Tryd.prog.info? 53 = some i := info_of_underlying Tryd.underlying53
theorem part54 (s : Bool) (f : Nat → Int) (m : Bool) (w : World) : (part 54 (numF s f m) 1).run Tryd.prog w = .ok (.agg (digs f)) w := by
  have h1 : (isAgg 54).run Tryd.prog w = .ok true w := by kernel_rfl
  have h2 : (sizeOf 54).run Tryd.prog w = .ok 96 w := by kernel_rfl
  simp only [part, Sem.run_bind, h1, h2, Result.andThen_ok, if_true, Sem.run_pure]
  have : (numF s f m).extract 1 (1 + 96) = digs f := by
    unfold numF digs
    simp [List.extract_toArray, List.extract_eq_take_drop]
  rw [this]
theorem items54 (d : Nat) (w : World) (f f' : Nat → Int) : ∀ is : List Nat, (∀ k ∈ is, k < 96) → (Op.eqItems (d + 1) 53 (Tryd.prog.cellsOf 53) (digs f) (digs f') is).run Tryd.prog w = .ok (is.all fun k => f k == f' k) w
  | [], _ => by simp [Op.eqItems]
  | i :: is, h => by
    have hi := h i (by simp)
    have ih := items54 d w f f' is (fun k hk => h k (by simp [hk]))
    have p1 := run_part_plain (P := Tryd.prog) w plain53 (digs_at f hi)
    have p2 := run_part_plain (P := Tryd.prog) w plain53 (digs_at f' hi)
    have p3 := run_equalIn_int (P := Tryd.prog) w d 53 .i8 .i8 (f i) (f' i) Tryd.underlying53
    have e : i * Tryd.prog.cellsOf 53 = i := by rw [cells53, Nat.mul_one]
    simp only [Op.eqItems, Sem.run_bind, e, p1, p2, p3, Result.andThen_ok]
    cases hb : (f i == f' i)
    · simp [hb]
    · simp only [Bool.not_true, Bool.false_eq_true, if_false, ih]
      simp [hb]
theorem equal54 (d : Nat) (w : World) (f f' : Nat → Int) : (Op.equalIn (d + 2) 54 (.agg (digs f)) (.agg (digs f'))).run Tryd.prog w = .ok ((List.range 96).all fun k => f k == f' k) w := by
  obtain ⟨i, hi⟩ := info53
  rw [run_equalIn_array w (d + 1) (digs f) (digs f') Tryd.underlying54 hi]
  exact items54 d w f f' _ (fun k hk => by simpa using hk)
theorem eq54 (w : World) (f f' : Nat → Int) : (Op.equal 54 (.agg (digs f)) (.agg (digs f'))).run Tryd.prog w = .ok ((List.range 96).all fun k => f k == f' k) w := by
  have h := equal54 9998 w f f'
  simp only [Nat.reduceAdd] at h
  unfold Op.equal Op.maxDepth
  exact h
/-- Are two numbers the same? -/
def sameF (s s' : Bool) (f f' : Nat → Int) (m m' : Bool) : Bool := s == s' && ((List.range 96).all (fun k => f k == f' k) && m == m')
theorem eqFields_one {P : Program} {w : World} (d : Nat) (xs ys : Array Value) (f : Field) (fs : List Field) {x y : Value} {r q : Bool} (hn : f.name ≠ "_") (hx : (part f.type xs f.offset).run P w = .ok x w) (hy : (part f.type ys f.offset).run P w = .ok y w)
    (he : (Op.equalIn d f.type x y).run P w = .ok r w) (hq : (Op.eqFields d xs ys fs).run P w = .ok q w) : (Op.eqFields d xs ys (f :: fs)).run P w = .ok (r && q) w := by
  simp only [Op.eqFields, hn, ne_eq, not_false_eq_true, if_true, Sem.run_bind, hx, hy, he, Result.andThen_ok]
  cases r
  · simp
  · simpa using hq
theorem eqFields_nil {P : Program} {w : World} (d : Nat) (xs ys : Array Value) : (Op.eqFields d xs ys []).run P w = .ok true w := by simp [Op.eqFields]
theorem stood56 : Tryd.prog.stoodInHeld 56 = false := by kernel_rfl
theorem fields56 : Tryd.prog.fieldsOf 56 = #[{ name := "below", type := 4, offset := 0, embedded := false, tag := "", pkgPath := "tabula/dec", byteOffset := 0 }, { name := "d", type := 54, offset := 1, embedded := false, tag := "", pkgPath := "tabula/dec", byteOffset := 1 }, { name := "more", type := 4, offset := 97, embedded := false, tag := "", pkgPath := "tabula/dec", byteOffset := 97 }] := by simp [Program.fieldsOf, Tryd.underlying56]
theorem equal56 (d : Nat) (w : World) (s s' : Bool) (f f' : Nat → Int) (m m' : Bool) : (Op.equalIn (d + 3) 56 (.agg (numF s f m)) (.agg (numF s' f' m'))).run Tryd.prog w = .ok (sameF s s' f f' m m') w := by
  have a1 := run_part_plain (P := Tryd.prog) w plain4 (numF_sign s f m)
  have a2 := run_part_plain (P := Tryd.prog) w plain4 (numF_sign s' f' m')
  have b1 := run_part_plain (P := Tryd.prog) w plain4 (numF_more s f m)
  have b2 := run_part_plain (P := Tryd.prog) w plain4 (numF_more s' f' m')
  have c1 := part54 s f m w
  have c2 := part54 s' f' m' w
  have e1 : (Op.equalIn (d + 2) 4 (.bool s) (.bool s')).run Tryd.prog w = _ := run_equalIn_bool (P := Tryd.prog) w (d + 1) 4 s s' Tryd.underlying4
  have e2 : (Op.equalIn (d + 2) 54 (.agg (digs f)) (.agg (digs f'))).run Tryd.prog w = _ := equal54 d w f f'
  have e3 : (Op.equalIn (d + 2) 4 (.bool m) (.bool m')).run Tryd.prog w = _ := run_equalIn_bool (P := Tryd.prog) w (d + 1) 4 m m' Tryd.underlying4
  have g0 := eqFields_nil (P := Tryd.prog) (w := w) (d + 2) (numF s f m) (numF s' f' m')
  have g1 := eqFields_one (P := Tryd.prog) (d + 2) (numF s f m) (numF s' f' m') { name := "more", type := 4, offset := 97, embedded := false, tag := "", pkgPath := "tabula/dec", byteOffset := 97 } [] (by simp) b1 b2 e3 g0
  have g2 := eqFields_one (P := Tryd.prog) (d + 2) (numF s f m) (numF s' f' m') { name := "d", type := 54, offset := 1, embedded := false, tag := "", pkgPath := "tabula/dec", byteOffset := 1 } _ (by simp) c1 c2 e2 g1
  have g3 := eqFields_one (P := Tryd.prog) (d + 2) (numF s f m) (numF s' f' m') { name := "below", type := 4, offset := 0, embedded := false, tag := "", pkgPath := "tabula/dec", byteOffset := 0 } _ (by simp) a1 a2 e1 g2
  clear a1 a2 b1 b2 c1 c2 e1 e2 e3 g0 g1 g2
  have := run_equalIn_struct (P := Tryd.prog) w (d + 2) 56 (numF s f m) (numF s' f' m') (by rw [fields56]; exact Tryd.underlying56) stood56
  rw [fields56] at this
  refine this.trans ?_
  rw [Bool.and_true] at g3
  exact g3
theorem eq56 (w : World) (s s' : Bool) (f f' : Nat → Int) (m m' : Bool) : (Op.equal 56 (.agg (numF s f m)) (.agg (numF s' f' m'))).run Tryd.prog w = .ok (sameF s s' f f' m m') w := by
  have h := equal56 9997 w s s' f f' m m'
  simp only [Nat.reduceAdd] at h
  unfold Op.equal Op.maxDepth
  exact h
end Go.Proofs.YtpkohfdebgiloaaDoor
