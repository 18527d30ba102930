/- Which items may not be. -/
import Derived.Test.YthnbpbmbpggadaaMItem
namespace Go.Proofs.Ythnbpbmbpggadaa.Mine
open Go.RowKit Go.Proofs.YthnbpbmbpggadaaW.PrintWords Go.Proofs.YthnbpbmbpggadaaW.PrintLast Go.Proofs.YthnbpbmbpggadaaW.PrintMore
open Go.Proofs.Ythnbpbmbpggadaa.PAsmLeads
set_option linter.unusedSimpArgs false
set_option linter.unusedVariables false

/-- which items may not be -/
def badB (x : S41) : Bool := decide (x.f0 < 0) || (decide (5 < x.f0) || (x.f0 == 0 && x.f1.toList.isEmpty))
theorem ret_bool' {a b : Bool} (h : a = b) : Ending.returned (.bool a) = .returned (.bool b) := by rw [h]

set_option maxHeartbeats 800000 in
theorem bad_any (x : S41) (w : World) :
    Calls Try.prog 57 #[.agg #[.int .i64 x.f0, .string x.f1, .int .i64 x.f2.f0, .int .i64 x.f2.f1, .int .i64 x.f2.f2, .int .i64 x.f2.f3, .int .i64 x.f2.f4, .int .u32 x.f3]] w fun e w' =>
      e = .returned (.bool (badB x)) ∧ Below w.heap.size w w' := by
  obtain ⟨kind, nm, ⟨op, a, b, c, imm⟩, wd⟩ := x
  show Calls Try.prog 57 #[.agg #[.int .i64 kind, .string nm, .int .i64 op, .int .i64 a, .int .i64 b, .int .i64 c, .int .i64 imm, .int .u32 wd]] w fun e w' =>
      e = .returned (.bool (decide (kind < 0) || (decide (5 < kind) || (kind == 0 && nm.toList.isEmpty)))) ∧ Below w.heap.size w w'
  by_cases h1 : kind < 0
  · have hd : decide (kind < 0) = true := decide_eq_true h1
    go_enter Try.func57, Try.ntmps57
    go_wp2_with fail
    go_ret
    exact ⟨ret_bool' (by simp [hd]), by repeat (first | exact Below.refl _ _ | apply below_alloc | apply pw_below_drewN | apply below_drew)⟩
  have hd : decide (kind < 0) = false := decide_eq_false h1
  by_cases h2 : 5 < kind
  · have hd2 : decide (5 < kind) = true := decide_eq_true h2
    go_enter Try.func57, Try.ntmps57
    go_wp2_with fail
    go_ret
    exact ⟨ret_bool' (by simp [hd, hd2]), by repeat (first | exact Below.refl _ _ | apply below_alloc | apply pw_below_drewN | apply below_drew)⟩
  have hd2 : decide (5 < kind) = false := decide_eq_false h2
  by_cases h3 : kind = 0
  · subst h3
    cases h4 : nm.toList.isEmpty
    all_goals
      go_enter Try.func57, Try.ntmps57
      go_wp2_with fail
      go_ret
      exact ⟨ret_bool' (by simp [h4]), by repeat (first | exact Below.refl _ _ | apply below_alloc | apply pw_below_drewN | apply below_drew)⟩
  · have h3' : (kind == 0) = false := beq_eq_false_iff_ne.mpr h3
    go_enter Try.func57, Try.ntmps57
    go_wp2_with fail
    go_ret
    exact ⟨ret_bool' (by simp [hd, hd2, h3']), by repeat (first | exact Below.refl _ _ | apply below_alloc | apply pw_below_drewN | apply below_drew)⟩

def IdxPost (l : List S41) (w : World) (e : Ending) (w' : World) : Prop := ∃ r : Int, e = .returned (.int .i64 r) ∧ (0 ≤ r ↔ l.any badB = true) ∧ Below w.heap.size w w'
theorem len41 {w : World} {A : Option Addr} {l : List S41} (h : Kd.C k41 w A l.length l) : l.length ≤ 9223372036854775807 := h.2.1

theorem any_step {l : List S41} {i : Int} (h : ∀ j : Nat, (j : Int) < i → badB (l.getD j z41) = false) (h0 : 0 ≤ i) (hq : badB (rd_T41 l i) = false) : ∀ j : Nat, (j : Int) < i + 1 → badB (l.getD j z41) = false := fun j hj => by
  by_cases e : (j : Int) < i
  · exact h j e
  · have : j = i.toNat := by omega
    subst this
    exact hq
theorem any_hit {l : List S41} {i : Int} (h0 : 0 ≤ i) (h1 : i < l.length) (hq : badB (rd_T41 l i) = true) : l.any badB = true := by
  rw [List.any_eq_true]
  refine ⟨rd_T41 l i, ?_, hq⟩
  unfold rd_T41
  have hl : i.toNat < l.length := by omega
  rw [List.getD_eq_getElem?_getD, List.getElem?_eq_getElem hl]
  exact List.getElem_mem hl
theorem any_none {l : List S41} (h : ∀ j : Nat, (j : Int) < l.length → badB (l.getD j z41) = false) : l.any badB = false := by
  rw [List.any_eq_false]
  intro x hx
  obtain ⟨j, hj, rfl⟩ := List.getElem_of_mem hx
  have := h j (by omega)
  rw [List.getD_eq_getElem?_getD, List.getElem?_eq_getElem hj] at this
  simpa using this

set_option maxHeartbeats 800000 in
theorem index_any (A : Option Addr) (cap : Nat) (l : List S41) (w : World) (hr : Kd.C k41 w A l.length l) :
    Calls Try.prog 101 #[.slice A l.length cap, .func (.func 57) #[] #[]] w (IdxPost l w) := by
  have HR := Lib.hid hr
  have hl := len41 hr
  clear hr
  go_enter Try.func101, Try.ntmps101
  go_wp2_with fail
  go_loopw [8] (fun v w' => ∃ i : Int, v = .int .i64 i ∧ 0 ≤ i ∧ i ≤ l.length ∧ Aside0 (∀ j : Nat, (j : Int) < i → badB (l.getD j z41) = false) ∧ Aside0 (Below w.heap.size w w')) (fun v _ => l.length - (intOf v).toNat)
  case atStart => exact ⟨0, rfl, Int.le_refl _, by omega, ⟨fun j hj => by omega⟩, ⟨Below.refl _ _⟩⟩
  case round =>
    obtain ⟨i, rfl, h0, h1, HN, HB⟩ := hrel
    by_cases hlt : i < l.length
    · have hd : decide (i < (l.length : Int)) = true := decide_eq_true hlt
      have hd0 : decide (0 ≤ i) = true := decide_eq_true h0
      obtain ⟨ad, e, hx0, hx1, hx2, hx3, hx4, hx5, hx6, hx7⟩ := at_T41 HR.out i h0 hlt
      cases e
      replace hx0 := (HB.out.cell (World.block_lt_of_cell? w _ hx0)).trans hx0
      replace hx1 := (HB.out.cell (World.block_lt_of_cell? w _ hx1)).trans hx1
      replace hx2 := (HB.out.cell (World.block_lt_of_cell? w _ hx2)).trans hx2
      replace hx3 := (HB.out.cell (World.block_lt_of_cell? w _ hx3)).trans hx3
      replace hx4 := (HB.out.cell (World.block_lt_of_cell? w _ hx4)).trans hx4
      replace hx5 := (HB.out.cell (World.block_lt_of_cell? w _ hx5)).trans hx5
      replace hx6 := (HB.out.cell (World.block_lt_of_cell? w _ hx6)).trans hx6
      replace hx7 := (HB.out.cell (World.block_lt_of_cell? w _ hx7)).trans hx7
      go_wp2_with fail
      refine (bad_any _ _).mono ?_
      obtain ⟨q, hq⟩ : ∃ q, badB (rd_T41 l i) = q := ⟨_, rfl⟩
      rw [hq]
      rintro e w2 ⟨rfl, hb⟩
      have HB2 := Aside0.mk (below_call HB.out hb)
      have HQ := Lib.hid hq
      clear hq hb hx0 hx1 hx2 hx3 hx4 hx5 hx6 hx7
      cases q
      · go_wp2_with fail
        go_roundw
        case rel => exact ⟨i + 1, rfl, by omega, by omega, ⟨any_step HN.out h0 HQ.out⟩, ⟨HB2.out⟩⟩
        case measure => simp [intOf]; omega
      · go_wp2_with fail
        go_ret
        exact ⟨i, rfl, ⟨fun _ => any_hit h0 hlt HQ.out, fun _ => h0⟩, HB2.out⟩
    · have hd : decide (i < (l.length : Int)) = false := decide_eq_false hlt
      have he : i = l.length := by omega
      have HE := Lib.hid he
      clear he
      go_wp2_with fail
      go_ret
      exact ⟨-1, rfl, ⟨fun h => absurd h (by decide), fun h => by rw [any_none (by have := HN.out; rw [HE.out] at this; exact this)] at h; cases h⟩, HB.out⟩

set_option maxHeartbeats 800000 in
theorem contains_any (A : Option Addr) (cap : Nat) (l : List S41) (w : World) (hr : Kd.C k41 w A l.length l) :
    Calls Try.prog 56 #[.slice A l.length cap, .func (.func 57) #[] #[]] w fun e w' => e = .returned (.bool (l.any badB)) ∧ Below w.heap.size w w' := by
  have HR := Lib.hid hr
  clear hr
  go_enter Try.func56, Try.ntmps56
  go_wp2_with fail
  refine (index_any A cap l w HR.out).mono ?_
  rintro e w2 ⟨r, rfl, hr, hb⟩
  have HR2 := Lib.hid hr
  have HB := Lib.hid hb
  clear hr hb
  go_wp2_with fail
  go_ret
  exact ⟨ret_bool' (by rw [Bool.eq_iff_iff, decide_eq_true_iff]; exact HR2.out), HB.out⟩
end Go.Proofs.Ythnbpbmbpggadaa.Mine
