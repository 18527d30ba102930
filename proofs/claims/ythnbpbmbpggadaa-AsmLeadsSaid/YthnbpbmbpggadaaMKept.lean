/- What inst.kept answers. -/
import Derived.Test.YthnbpbmbpggadaaPAsmLeadsx0
import Derived.Test.YthnbpbmbpggadaaPAsmLeadsx2
import Derived.Test.YthnbpbmbpggadaaShelf
import Derived.WalkSpells
import Derived.WalkLawsBesides
import Derived.Lib.Hide
namespace Go.Proofs.Ythnbpbmbpggadaa.Mine
open Go.RowKit Go.Proofs.YthnbpbmbpggadaaW.PrintWords Go.Proofs.YthnbpbmbpggadaaW.PrintLast Go.Proofs.YthnbpbmbpggadaaW.PrintMore

/-- a letter's place -/
def keepB (x v : Int) : Int := if x < 0 then 0 else v
theorem keepB_neg {x v : Int} (h : x < 0) : keepB x v = 0 := if_pos h
theorem keepB_pos {x v : Int} (h : 0 ≤ x) : keepB x v = v := if_neg (by omega)

set_option maxHeartbeats 400000 in
theorem kept_any (op a b c imm : Int) (s : ByteArray) (w : World) :
    Calls Try.prog 104 #[.agg #[.int .i64 op, .int .i64 a, .int .i64 b, .int .i64 c, .int .i64 imm], .string s] w fun e w' =>
      e = .returned (.agg #[.int .i64 op, .int .i64 (keepB (Lib.indexByte s.data.toList 97) a), .int .i64 (keepB (Lib.indexByte s.data.toList 98) b), .int .i64 (keepB (Lib.indexByte s.data.toList 99) c), .int .i64 imm]) ∧ Below w.heap.size w w' := by
  generalize h1 : Lib.indexByte s.data.toList 97 = x1
  generalize h2 : Lib.indexByte s.data.toList 98 = x2
  generalize h3 : Lib.indexByte s.data.toList 99 = x3
  have H1 := Lib.hid h1
  have H2 := Lib.hid h2
  have H3 := Lib.hid h3
  clear h1 h2 h3
  have i0 : ∀ (x y z : Value) (w : World), (Instr.index 222 (.agg #[x, y, z]) (.int .i64 0)).run Try.prog w = .ok x w := fun _ _ _ _ => by kernel_rfl
  have i1 : ∀ (x y z : Value) (w : World), (Instr.index 222 (.agg #[x, y, z]) (.int .i64 1)).run Try.prog w = .ok y w := fun _ _ _ _ => by kernel_rfl
  have i2 : ∀ (x y z : Value) (w : World), (Instr.index 222 (.agg #[x, y, z]) (.int .i64 2)).run Try.prog w = .ok z w := fun _ _ _ _ => by kernel_rfl
  go_enter Try.func104, Try.ntmps104
  go_wp2_with fail
  refine wp_loop_rounds 4 ?_
  go_wp2_with fail
  rw [rounds_succ]
  go_wp2_with fail
  refine (Try.strings_IndexByte _ _ _).mono ?_
  rintro e w' ⟨he, rfl⟩
  replace he : e = .returned (.int .i64 x1) := he.trans (by rw [← H1.out]; rfl)
  subst he
  rcases Int.lt_or_le x1 0 with c1 | c1
  all_goals
    go_wp2_with fail
    rw [rounds_succ]
    go_wp2_with fail
    refine (Try.strings_IndexByte _ _ _).mono ?_
    rintro e w' ⟨he, rfl⟩
    replace he : e = .returned (.int .i64 x2) := he.trans (by rw [← H2.out]; rfl)
    subst he
    rcases Int.lt_or_le x2 0 with c2 | c2
    all_goals
      go_wp2_with fail
      rw [rounds_succ]
      go_wp2_with fail
      refine (Try.strings_IndexByte _ _ _).mono ?_
      rintro e w' ⟨he, rfl⟩
      replace he : e = .returned (.int .i64 x3) := he.trans (by rw [← H3.out]; rfl)
      subst he
      rcases Int.lt_or_le x3 0 with c3 | c3
      all_goals
        go_wp2_with fail
        rw [rounds_succ]
        go_wp2_with fail
        refine bodyPost_ret (v := .agg #[.int .i64 op, .int .i64 (keepB x1 a), .int .i64 (keepB x2 b), .int .i64 (keepB x3 c), .int .i64 imm]) (by (first | have k1 := keepB_neg (v := a) c1 | have k1 := keepB_pos (v := a) c1); (first | have k2 := keepB_neg (v := b) c2 | have k2 := keepB_pos (v := b) c2); (first | have k3 := keepB_neg (v := c) c3 | have k3 := keepB_pos (v := c) c3); rw [k1, k2, k3]; simp [results, Try.results104, go_sem]) rfl ⟨rfl, ?_⟩
        repeat (first | exact ((Below.refl _ _).alloc (Nat.le_refl _) _).alloc (by simp) _ | refine Below.setCell ?_ (by simp) _)
end Go.Proofs.Ythnbpbmbpggadaa.Mine
