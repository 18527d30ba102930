/- Which items' instructions may be. -/
import Derived.Test.YthnbpbmbpggadaaMPlaces
namespace Go.Proofs.Ythnbpbmbpggadaa.Mine
open Go.RowKit Go.Proofs.YthnbpbmbpggadaaW.PrintWords Go.Proofs.YthnbpbmbpggadaaW.PrintLast Go.Proofs.YthnbpbmbpggadaaW.PrintMore
open Go.Proofs.Ythnbpbmbpggadaa.PAsmLeads
set_option linter.unusedSimpArgs false
set_option linter.unusedVariables false

/-- which items' instructions may be -/
def irightB (x : S41) : Bool :=
  if x.f0 = 1 then rightB x.f2.f0 x.f2.f1 x.f2.f2 x.f2.f3 x.f2.f4
  else if x.f0 = 2 then rightB x.f2.f0 x.f2.f1 x.f2.f2 x.f2.f3 x.f2.f4 && (decide (x.f2.f4 = 0) && (decide (16 ≤ x.f2.f0) && decide (x.f2.f0 ≤ 20)))
  else if x.f0 = 3 then rightB x.f2.f0 x.f2.f1 x.f2.f2 x.f2.f3 x.f2.f4 && (decide (x.f2.f4 = 0) && decide (x.f2.f0 = 1))
  else true
abbrev boxA (x : S41) : Value := .agg #[.int .i64 x.f0, .string x.f1, .int .i64 x.f2.f0, .int .i64 x.f2.f1, .int .i64 x.f2.f2, .int .i64 x.f2.f3, .int .i64 x.f2.f4, .int .u32 x.f3]

set_option maxHeartbeats 1600000 in
theorem iright_any (x : S41) (w : World) :
    Calls Try.prog 53 #[boxA x] w fun e w' => e = .returned (.bool (irightB x)) ∧ Below w.heap.size w w' := by
  obtain ⟨kind, nm, ⟨op, a, b, c, imm⟩, wd⟩ := x
  show Calls Try.prog 53 #[.agg #[.int .i64 kind, .string nm, .int .i64 op, .int .i64 a, .int .i64 b, .int .i64 c, .int .i64 imm, .int .u32 wd]] w fun e w' =>
      e = .returned (.bool (irightB ⟨kind, nm, ⟨op, a, b, c, imm⟩, wd⟩)) ∧ Below w.heap.size w w'
  obtain ⟨r, hr⟩ : ∃ r, irightB ⟨kind, nm, ⟨op, a, b, c, imm⟩, wd⟩ = r := ⟨_, rfl⟩
  rw [hr]
  have HR := Lib.hid hr
  clear hr
  have B0 : ∀ w1, Below (w.alloc (.cells #[.int .i64 kind, .string nm, .int .i64 op, .int .i64 a, .int .i64 b, .int .i64 c, .int .i64 imm, .int .u32 wd] 41)).heap.size (w.alloc (.cells #[.int .i64 kind, .string nm, .int .i64 op, .int .i64 a, .int .i64 b, .int .i64 c, .int .i64 imm, .int .u32 wd] 41)) w1 →
      Below w.heap.size w w1 ∧ w1.cell? ⟨w.heap.size, 2, none⟩ = some (.int .i64 op) ∧ w1.cell? ⟨w.heap.size, 6, none⟩ = some (.int .i64 imm) := fun w1 hb =>
    ⟨below_call (below_alloc (Below.refl _ _) _) hb, blk_c (blk_below (blk_new w _) hb) 2 rfl, blk_c (blk_below (blk_new w _) hb) 6 rfl⟩
  obtain ⟨q, hq⟩ : ∃ q, rightB op a b c imm = q := ⟨_, rfl⟩
  have HQ := Lib.hid hq
  clear hq
  by_cases h1 : kind = 1
  · subst h1
    have hrq : r = q := by have := HR.out; unfold irightB at this; rw [if_pos rfl] at this; rw [← this]; exact HQ.out
    subst hrq
    clear B0
    go_enter Try.func53, Try.ntmps53
    go_wp2_with fail
    refine (right_any _ _ _ _ _ _).mono ?_
    rw [HQ.out]
    rintro e w1 ⟨rfl, hb⟩
    have HB := Lib.hid (below_call (below_alloc (Below.refl _ _) _) hb)
    clear hb
    go_wp2_with fail
    go_ret
    exact ⟨rfl, HB.out⟩
  by_cases h2 : kind = 2
  · subst h2
    have hrq : r = (q && (decide (imm = 0) && (decide (16 ≤ op) && decide (op ≤ 20)))) := by have := HR.out; unfold irightB at this; rw [if_neg (by simp), if_pos rfl] at this; rw [← this]; simp only; rw [HQ.out]
    have HX := Lib.hid hrq
    clear hrq
    go_enter Try.func53, Try.ntmps53
    go_wp2_with fail
    refine (right_any _ _ _ _ _ _).mono ?_
    rw [HQ.out]
    rintro e w1 ⟨rfl, hb⟩
    obtain ⟨hb1, hc2, hc6⟩ := B0 w1 hb
    have HB := Lib.hid hb1
    clear hb hb1 B0
    cases q
    · go_wp2_with fail
      go_ret
      exact ⟨ret_bool (by rw [HX.out]; rfl), HB.out⟩
    by_cases e1 : imm = 0
    · subst e1
      by_cases e2 : 16 ≤ op
      · have hd2 : decide (16 ≤ op) = true := decide_eq_true e2
        go_wp2_with fail
        go_ret
        exact ⟨ret_bool (by rw [HX.out, hd2]; simp), HB.out⟩
      · have hd2 : decide (16 ≤ op) = false := decide_eq_false e2
        go_wp2_with fail
        go_ret
        exact ⟨ret_bool (by rw [HX.out, hd2]; simp), HB.out⟩
    · have hd1 : (imm == 0) = false := beq_eq_false_iff_ne.mpr e1
      go_wp2_with fail
      go_ret
      exact ⟨ret_bool (by rw [HX.out, decide_eq_false e1]; simp), HB.out⟩
  by_cases h3 : kind = 3
  · subst h3
    have hrq : r = (q && (decide (imm = 0) && decide (op = 1))) := by have := HR.out; unfold irightB at this; rw [if_neg (by simp), if_neg (by simp), if_pos rfl] at this; rw [← this]; simp only; rw [HQ.out]
    have HX := Lib.hid hrq
    clear hrq
    go_enter Try.func53, Try.ntmps53
    go_wp2_with fail
    refine (right_any _ _ _ _ _ _).mono ?_
    rw [HQ.out]
    rintro e w1 ⟨rfl, hb⟩
    obtain ⟨hb1, hc2, hc6⟩ := B0 w1 hb
    have HB := Lib.hid hb1
    clear hb hb1 B0
    cases q
    · go_wp2_with fail
      go_ret
      exact ⟨ret_bool (by rw [HX.out]; rfl), HB.out⟩
    by_cases e1 : imm = 0
    · subst e1
      go_wp2_with fail
      go_ret
      exact ⟨ret_bool (by rw [HX.out, Bool.eq_iff_iff]; simp), HB.out⟩
    · have hd1 : (imm == 0) = false := beq_eq_false_iff_ne.mpr e1
      go_wp2_with fail
      go_ret
      exact ⟨ret_bool (by rw [HX.out, decide_eq_false e1]; simp), HB.out⟩
  · have hrq : r = true := by have := HR.out; unfold irightB at this; rw [if_neg h1, if_neg h2, if_neg h3] at this; exact this.symm
    have e1 : (kind == 1) = false := beq_eq_false_iff_ne.mpr h1
    have e2 : (kind == 2) = false := beq_eq_false_iff_ne.mpr h2
    have e3 : (kind == 3) = false := beq_eq_false_iff_ne.mpr h3
    subst hrq
    clear B0
    go_enter Try.func53, Try.ntmps53
    go_wp2_with fail
    go_ret
    exact ⟨rfl, by repeat (first | exact Below.refl _ _ | apply below_alloc | apply pw_below_drewN | apply below_drew)⟩
end Go.Proofs.Ythnbpbmbpggadaa.Mine
