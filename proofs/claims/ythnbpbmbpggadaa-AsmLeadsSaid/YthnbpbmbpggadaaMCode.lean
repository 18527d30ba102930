/- The code that is being built, and what lay does to it. -/
import Derived.Test.YthnbpbmbpggadaaMInst
namespace Go.Proofs.Ythnbpbmbpggadaa.Mine
open Go.RowKit Go.Proofs.YthnbpbmbpggadaaW.PrintWords Go.Proofs.YthnbpbmbpggadaaW.PrintLast Go.Proofs.YthnbpbmbpggadaaW.PrintMore
open Go.Proofs.Ythnbpbmbpggadaa.PAsmLeads
set_option linter.unusedSimpArgs false
set_option linter.unusedVariables false

def wordV (op a b c imm : Int) : Int := if rightP op a b c imm then 16777216 * op + 1048576 * a + 65536 * b + c + imm % 65536 else 0
def wordE (op a b c imm : Int) : Int := if rightP op a b c imm then 0 else 1
theorem word_any (op a b c imm : Int) (w : World) :
    Calls Try.prog 76 #[.agg #[.int .i64 op, .int .i64 a, .int .i64 b, .int .i64 c, .int .i64 imm]] w fun e w' =>
      e = .returned (.tuple #[.int .u32 (wordV op a b c imm), .int .i64 (wordE op a b c imm)]) ∧ Below w.heap.size w w' := by
  by_cases h : rightP op a b c imm
  · unfold wordV wordE; rw [if_pos h, if_pos h]; exact word_right op a b c imm w h
  · unfold wordV wordE; rw [if_neg h, if_neg h]; exact word_wrong op a b c imm w h

/-! the code that is being built: a variable of two slices, each of the call's own -/
def relV (r : Int × Bool) : List Value := [.int .i64 r.1, .bool r.2]
structure IsCode (w : World) (base g : Nat) (vw vr : Value) (ws : List Int) (rs : List (Int × Bool)) : Prop where
  blk : w.heap[g]? = some (.cells #[vw, vr] 30 (0, 0))
  low : base ≤ g
  W : w.ownsRow base 39 1 vw ws.length (nums .u32 ws)
  R : w.ownsRow base 46 2 vr rs.length (rs.flatMap relV)

theorem blk_c {w : World} {g : Nat} {cs : Array Value} {t : TypeId} (h : w.heap[g]? = some (.cells cs t (0, 0))) (j : Nat) {v : Value} (hj : cs[j]? = some v) : w.cell? ⟨g, j, none⟩ = some v := by
  rw [blk_cell h]; exact hj
theorem own_cells {w : World} {base : Nat} {e : TypeId} {size n : Nat} {v : Value} {xs : List Value} (h : w.ownsRow base e size v n xs) (k : Nat) (hk : v.ownBlock = some k) : ∃ cur, w.heap[k]? = some (.cells cur e (0, 0)) := by
  rcases h.2 with ⟨rfl, _⟩ | ⟨g, cap, cur, rfl, hb, hh, _⟩
  · simp [Value.ownBlock] at hk
  · have : g = k := by simpa [Value.ownBlock] using hk
    subst this
    exact ⟨_, hh⟩
theorem own_ne_blk {w : World} {base : Nat} {e t : TypeId} {size n : Nat} {v : Value} {xs : List Value} {g : Nat} {cs : Array Value} (h : w.ownsRow base e size v n xs) (hg : w.heap[g]? = some (.cells cs t (0, 0))) (hne : e ≠ t) : some g ≠ v.ownBlock := by
  intro hk
  obtain ⟨cur, hc⟩ := own_cells h g hk.symm
  rw [hg] at hc
  injection hc with hc
  injection hc with _ ht
  exact hne ht.symm
theorem grown_set (W : World) (b j : Nat) (v : Value) : W.grownBy (W.setCell ⟨b, j, none⟩ v) (some b) := by
  refine ⟨rfl, rfl, rfl, by simp, fun k hk hne => ?_⟩
  have hn : k ≠ b := fun e => hne (by rw [e])
  exact Below.heap_setCell _ _ _ k hn
/-- what isn't code's own (g: its variable) stays as it is -/
def codeOwn (o : Obj) : Prop := ∃ cur e f, o = Obj.cells cur e f ∧ (e = 39 ∨ e = 46)
def KM (g : Nat) (w w' : World) : Prop := ∀ (k : Nat) (o : Obj), w.heap[k]? = some o → k ≠ g → ¬ codeOwn o → w'.heap[k]? = some o
theorem KM.refl (g : Nat) (w : World) : KM g w w := fun _ _ h _ _ => h
theorem KM.trans {g : Nat} {w w1 w2 : World} (h : KM g w w1) (k : KM g w1 w2) : KM g w w2 := fun _ _ m hg hn => k _ _ (h _ _ m hg hn) hg hn
theorem KM.of_below {g : Nat} {w w1 : World} (h : Below w.heap.size w w1) : KM g w w1 := fun _ _ m _ _ => blk_below m h
theorem KM.of_grown {g : Nat} {w w1 : World} {row : Option Nat} (h : w.grownBy w1 row) (hr : ∀ k, row = some k → k = g ∨ ∃ cur e f, w.heap[k]? = some (Obj.cells cur e f) ∧ (e = 39 ∨ e = 46)) : KM g w w1 := fun k o m hg hn =>
  blk_grown m h (fun e => by
    rcases hr k e.symm with h | ⟨cur, t, f, hc, ht⟩
    · exact hg h
    · rw [m] at hc; injection hc with hc; exact hn ⟨cur, t, f, hc, ht⟩)
theorem IsCode.below {w w1 : World} {base g : Nat} {vw vr : Value} {ws : List Int} {rs : List (Int × Bool)} (h : IsCode w base g vw vr ws rs) (hb : Below w.heap.size w w1) : IsCode w1 base g vw vr ws rs :=
  ⟨blk_below h.blk hb, h.low, pw_own_below h.W hb, pw_own_below h.R hb⟩
theorem IsCode.addW {w w2 : World} {base g : Nat} {vw vr v' : Value} {ws : List Int} {rs : List (Int × Bool)} {x : Int} (h : IsCode w base g vw vr ws rs) (o : Obj)
    (hown2 : w2.ownsRow base 39 1 v' (ws.length + 1) (nums .u32 ws ++ [.int .u32 x])) (hgrow : (w.alloc o).grownBy w2 vw.ownBlock) :
    IsCode (w2.setCell ⟨g, 0, none⟩ v') base g v' vr (ws ++ [x]) rs ∧ Below base w (w2.setCell ⟨g, 0, none⟩ v') ∧ KM g w (w2.setCell ⟨g, 0, none⟩ v') ∧
    w2.cell? ⟨g, 0, none⟩ = some vw ∧ w2.frozen? ⟨g, 0, none⟩ = false := by
  have hlt : g < w.heap.size := blk_lt h.blk
  have hlow := h.low
  have hblk2 := blk_grown (blk_alloc h.blk o) hgrow (own_ne_blk h.W h.blk (by decide))
  have hR2 := own_other (h.R.alloc o) hgrow (own_type_ne h.R h.W (by decide))
  have hneW : v'.ownBlock ≠ some g := fun e => own_ne_blk hown2 hblk2 (by decide) e.symm
  have hneR : vr.ownBlock ≠ some g := fun e => own_ne_blk hR2 hblk2 (by decide) e.symm
  refine ⟨⟨blk_put hblk2 0 _ rfl, hlow, ?_, own_other hR2 (grown_set _ _ _ _) (Or.inr hneR)⟩, ?_, ?_, blk_c hblk2 0 rfl, blk_frozen hblk2 0⟩
  · have h := own_other hown2 (grown_set w2 g 0 v') (Or.inr hneW)
    rw [List.length_append, nums_append]
    exact h
  · have h1 : Below base w w2 := pw_below_grown (B := base) ((Below.refl base w).alloc (by omega) _) _ (by simp; omega) hgrow (fun k hk => own_base h.W k hk)
    exact h1.setCell hlow _
  · exact ((KM.of_below (below_alloc (Below.refl _ _) o)).trans (KM.of_grown hgrow (fun k hk => by obtain ⟨cur, hc⟩ := own_cells (h.W.alloc o) k hk; exact Or.inr ⟨_, _, _, hc, Or.inl rfl⟩))).trans
      (KM.of_grown (grown_set _ _ _ _) (fun k hk => by cases hk; exact Or.inl rfl))
theorem IsCode.addR {w w2 : World} {base g : Nat} {vw vr v' : Value} {ws : List Int} {rs : List (Int × Bool)} {r : Int × Bool} (h : IsCode w base g vw vr ws rs) (o : Obj)
    (hown2 : w2.ownsRow base 46 2 v' (rs.length + 1) (rs.flatMap relV ++ relV r)) (hgrow : (w.alloc o).grownBy w2 vr.ownBlock) :
    IsCode (w2.setCell ⟨g, 1, none⟩ v') base g vw v' ws (rs ++ [r]) ∧ Below base w (w2.setCell ⟨g, 1, none⟩ v') ∧ KM g w (w2.setCell ⟨g, 1, none⟩ v') ∧
    w2.cell? ⟨g, 1, none⟩ = some vr ∧ w2.frozen? ⟨g, 1, none⟩ = false := by
  have hlt : g < w.heap.size := blk_lt h.blk
  have hlow := h.low
  have hblk2 := blk_grown (blk_alloc h.blk o) hgrow (own_ne_blk h.R h.blk (by decide))
  have hW2 := own_other (h.W.alloc o) hgrow (own_type_ne h.W h.R (by decide))
  have hneR : v'.ownBlock ≠ some g := fun e => own_ne_blk hown2 hblk2 (by decide) e.symm
  have hneW : vw.ownBlock ≠ some g := fun e => own_ne_blk hW2 hblk2 (by decide) e.symm
  refine ⟨⟨blk_put hblk2 1 _ rfl, hlow, own_other hW2 (grown_set _ _ _ _) (Or.inr hneW), ?_⟩, ?_, ?_, blk_c hblk2 1 rfl, blk_frozen hblk2 1⟩
  · have h := own_other hown2 (grown_set w2 g 1 v') (Or.inr hneR)
    rw [List.length_append, List.flatMap_append]
    simpa using h
  · have h1 : Below base w w2 := pw_below_grown (B := base) ((Below.refl base w).alloc (by omega) _) _ (by simp; omega) hgrow (fun k hk => own_base h.R k hk)
    exact h1.setCell hlow _
  · exact ((KM.of_below (below_alloc (Below.refl _ _) o)).trans (KM.of_grown hgrow (fun k hk => by obtain ⟨cur, hc⟩ := own_cells (h.R.alloc o) k hk; exact Or.inr ⟨_, _, _, hc, Or.inr rfl⟩))).trans
      (KM.of_grown (grown_set _ _ _ _) (fun k hk => by cases hk; exact Or.inl rfl))

theorem info39 : (Try.prog.info? 39).map (fun i => (i.zero, i.size, i.bytes)) = some (some (.int .u32 0), 1, 4) := by kernel_rfl
theorem info46 : (Try.prog.info? 46).map (fun i => (i.zero, i.size, i.bytes)) = some (some (.agg #[.int .i64 0, .bool false]), 2, 16) := by kernel_rfl

set_option maxHeartbeats 800000 in
set_option maxRecDepth 100000 in
theorem lay_any (base g : Nat) (vw vr : Value) (ws : List Int) (rs : List (Int × Bool)) (op a b c imm : Int) (w : World) (hC : IsCode w base g vw vr ws rs) (hlen : (ws.length + 1) * 4 ≤ 140737488355328) :
    Calls Try.prog 100 #[.pointer (some ⟨g, 0, none⟩), .agg #[.int .i64 op, .int .i64 a, .int .i64 b, .int .i64 c, .int .i64 imm]] w fun e w' =>
      ∃ vw', e = .returned (.int .i64 (wordE op a b c imm)) ∧ IsCode w' base g vw' vr (ws ++ [wordV op a b c imm]) rs ∧ Below base w w' ∧ KM g w w' := by
  have hlt : g < w.heap.size := blk_lt hC.blk
  have hw1 : ∀ w1, Below (w.alloc (.cells #[.int .i64 op, .int .i64 a, .int .i64 b, .int .i64 c, .int .i64 imm] 38)).heap.size (w.alloc (.cells #[.int .i64 op, .int .i64 a, .int .i64 b, .int .i64 c, .int .i64 imm] 38)) w1 → Below w.heap.size w w1 := fun w1 hb => below_call (below_alloc (Below.refl _ _) _) hb
  obtain ⟨i0, hi, hz0, hz1, hz2⟩ := info_parts info39
  have HC := Lib.hid hC
  have HL := Lib.hid hlen
  clear hC hlen
  go_enter Try.func100, Try.ntmps100
  go_wp2_with fail
  refine (word_any _ _ _ _ _ _).mono ?_
  rintro e w1 ⟨rfl, hb0⟩
  have hb := hw1 w1 hb0
  clear hb0 hw1
  have hown := pw_own_below HC.out.W hb
  have hblk : w1.heap[g]? = some (.cells #[vw, vr] 30 (0, 0)) := (hb.block g hlt).trans HC.out.blk
  have hc0 : w1.cell? ⟨g, 0, none⟩ = some vw := blk_c hblk 0 rfl
  go_wp2_with (at_builtin; refine wpList_append_own _ rfl _ _ 27 rfl base 39 i0 (.int .u32 0) 1 4 Try.underlying27 hi hz0 hz1 hz2 rfl (by decide) _ _ _ rfl (hown.alloc _) ⟨w1.heap.size, 0, none⟩ 1 1 [.int .u32 (wordV op a b c imm)] rfl rfl ?c1 ?c2 ?c3 ?c4 ?c5 ?_)
  case c1 => exact cell_one_new _ _ _
  case c2 => intro u hu; simp at hu; subst hu; rfl
  case c3 => have := HL.out; unfold maxLen; omega
  case c4 => exact HL.out
  case c5 => have := hb.size; have := HC.out.low; simp; omega
  intro v' w2 hown2 hgrow _
  obtain ⟨A', c', hv'⟩ := own_slice hown2
  rw [hv'] at hown2 ⊢
  clear hv'
  obtain ⟨r1, r2, r3, hc2, hf2⟩ := (HC.out.below hb).addW _ hown2 hgrow
  have R1 := Lib.hid r1
  clear r1 hown2 hgrow
  go_wp2_with fail
  go_ret
  exact ⟨_, rfl, R1.out, (hb.mono (Nat.le_trans HC.out.low (Nat.le_of_lt hlt))).trans r2, (KM.of_below hb).trans r3⟩

end Go.Proofs.Ythnbpbmbpggadaa.Mine
