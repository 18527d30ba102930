/- Rows that are told as lists. -/
import Derived.Test.YthnbpbmbpggadaaMLeads
namespace Go.Proofs.Ythnbpbmbpggadaa.Mine
open Go.RowKit Go.Proofs.YthnbpbmbpggadaaW.PrintWords Go.Proofs.YthnbpbmbpggadaaW.PrintLast Go.Proofs.YthnbpbmbpggadaaW.PrintMore
open Go.Proofs.Ythnbpbmbpggadaa.PAsmLeads
set_option linter.unusedSimpArgs false
set_option linter.unusedVariables false

/-! rows of one make, told as lists -/
theorem flat_at {α : Type} {cells : α → List Value} {n : Nat} (hn : ∀ x, (cells x).length = n) : ∀ (l : List α) (rest : List Value) (j : Nat) (x : α), l[j]? = some x → ∀ (i : Nat) (u : Value), (cells x)[i]? = some u → (l.flatMap cells ++ rest)[j * n + i]? = some u := by
  intro l
  induction l with
  | nil => intro rest j x hj; simp at hj
  | cons y t ih =>
    intro rest j x hj i u hu
    have hi : i < n := by
      rcases Nat.lt_or_ge i (cells x).length with h | h
      · rw [hn] at h; exact h
      · rw [List.getElem?_eq_none h] at hu; cases hu
    cases j with
    | zero =>
      simp at hj
      subst hj
      rw [List.flatMap_cons, List.append_assoc, Nat.zero_mul, Nat.zero_add, List.getElem?_append_left (by rw [hn]; exact hi)]
      exact hu
    | succ j =>
      have hj' : t[j]? = some x := by simpa using hj
      have h := ih rest j x hj' i u hu
      rw [List.flatMap_cons, List.append_assoc, List.getElem?_append_right (by rw [hn, Nat.succ_mul]; omega), hn]
      have e : (j + 1) * n + i - n = j * n + i := by rw [Nat.succ_mul]; omega
      rw [e]
      exact h
theorem C_of_cells {α : Type} {d : Kd α} {cells : α → List Value} (hn : ∀ x, (cells x).length = d.sz) (hK : ∀ w x, d.K w x (cells x)) {w : World} {ad : Addr} {l : List α} (hl : l.length ≤ 9223372036854775807) (rest : List Value)
    (hc : ∀ k u, (l.flatMap cells ++ rest)[k]? = some u → w.cell? (ad.add k) = some u) : Kd.C d w (some ad) l.length l :=
  ⟨rfl, hl, fun _ => ⟨ad, rfl, fun j x hj => ⟨cells x, hn x, hK w x, fun i u hu => hc _ u (flat_at hn l rest j x hj i u hu)⟩⟩⟩
theorem C_of_own {α : Type} {d : Kd α} {cells : α → List Value} (hn : ∀ x, (cells x).length = d.sz) (hK : ∀ w x, d.K w x (cells x)) {w : World} {base e : Nat} {v : Value} {l : List α} (h : w.ownsRow base e d.sz v l.length (l.flatMap cells)) :
    ∃ A c, v = .slice A l.length c ∧ l.length ≤ c ∧ Kd.C d w A l.length l := by
  rcases h.2 with ⟨rfl, h0⟩ | ⟨g, cap, cur, rfl, hb, hh, h1, h2, h3, h4⟩
  · have : l = [] := List.length_eq_zero_iff.mp h0
    subst this
    exact ⟨none, 0, rfl, Nat.le_refl _, Kd.C_nil d w⟩
  · refine ⟨_, cap, rfl, h1, C_of_cells hn hK (by unfold maxLen at h2; omega) [] ?_⟩
    intro k u hu
    rw [List.append_nil] at hu
    rw [add_plain, blk_cell hh]
    rw [← h4, List.getElem?_take] at hu
    split at hu
    · simpa using hu
    · cases hu
theorem C_of_blk {α : Type} {d : Kd α} {cells : α → List Value} (hn : ∀ x, (cells x).length = d.sz) (hK : ∀ w x, d.K w x (cells x)) {w : World} {g o : Nat} {cs : Array Value} {t : TypeId} {l : List α} (hl : l.length ≤ 9223372036854775807)
    (h : w.heap[g]? = some (.cells cs t (0, 0))) (rest : List Value) (he : cs.toList.drop o = l.flatMap cells ++ rest) : Kd.C d w (some ⟨g, o, none⟩) l.length l := by
  refine C_of_cells hn hK hl rest ?_
  intro k u hu
  have ha : (⟨g, o, none⟩ : Addr).add k = ⟨g, o + k, none⟩ := by unfold Addr.add; split <;> simp_all
  rw [ha, blk_cell h]
  rw [← he, List.getElem?_drop] at hu
  simpa using hu
def cells41 (x : S41) : List Value := [.int .i64 x.f0, .string x.f1, .int .i64 x.f2.f0, .int .i64 x.f2.f1, .int .i64 x.f2.f2, .int .i64 x.f2.f3, .int .i64 x.f2.f4, .int .u32 x.f3]
theorem cells41_len (x : S41) : (cells41 x).length = k41.sz := rfl
theorem cells41_K (w : World) (x : S41) : k41.K w x (cells41 x) := k41_mk w x
def toR (r : Int × Bool) : S46 := ⟨r.1, r.2⟩
def cells46 (x : S46) : List Value := [.int .i64 x.f0, .bool x.f1]
theorem cells46_len (x : S46) : (cells46 x).length = k46.sz := rfl
theorem cells46_K (w : World) (x : S46) : k46.K w x (cells46 x) := k46_mk w x
theorem rel_cells (rs : List (Int × Bool)) : rs.flatMap relV = (rs.map toR).flatMap cells46 := by
  induction rs with
  | nil => rfl
  | cons r t ih => rw [List.flatMap_cons, ih]; rfl
def cellsW (x : Int) : List Value := [.int .u32 x]
theorem nums_cells (ws : List Int) : nums .u32 ws = ws.flatMap cellsW := by
  induction ws with
  | nil => rfl
  | cons r t ih => rw [List.flatMap_cons, ← ih]; rfl
theorem cellsW_len (x : Int) : (cellsW x).length = (Kd.int .u32).sz := rfl
theorem cellsW_K (w : World) (x : Int) : (Kd.int .u32).K w x (cellsW x) := rfl
theorem words_C {w : World} {base : Nat} {v : Value} {ws : List Int} (h : w.ownsRow base 39 1 v ws.length (nums .u32 ws)) : ∃ A c, v = .slice A ws.length c ∧ ws.length ≤ c ∧ Kd.C (Kd.int .u32) w A ws.length ws :=
  C_of_own (d := Kd.int .u32) cellsW_len cellsW_K (by rw [← nums_cells]; exact h)
theorem relocs_C {w : World} {base : Nat} {v : Value} {rs : List (Int × Bool)} (h : w.ownsRow base 46 2 v rs.length (rs.flatMap relV)) : ∃ A c, v = .slice A rs.length c ∧ rs.length ≤ c ∧ Kd.C k46 w A (rs.map toR).length (rs.map toR) := by
  have := C_of_own (d := k46) (l := rs.map toR) cells46_len cells46_K (v := v) (w := w) (base := base) (e := 46) (by rw [← rel_cells, List.length_map]; exact h)
  rwa [List.length_map] at this ⊢
end Go.Proofs.Ythnbpbmbpggadaa.Mine
