/- AsmLeads in plain lists. -/
import Derived.Test.YthnbpbmbpggadaaMBuild
namespace Go.Proofs.Ythnbpbmbpggadaa.Mine
open Go.RowKit Go.Proofs.YthnbpbmbpggadaaW.PrintWords Go.Proofs.YthnbpbmbpggadaaW.PrintLast Go.Proofs.YthnbpbmbpggadaaW.PrintMore
open Go.Proofs.Ythnbpbmbpggadaa.PAsmLeads
set_option linter.unusedSimpArgs false
set_option linter.unusedVariables false

/-! a word's instruction is the one that it is of -/
theorem of_word {op a b c imm : Int} (h : rightP op a b c imm) : opV (16777216 * op + 1048576 * a + 65536 * b + c + imm % 65536) = op ∧ aV (16777216 * op + 1048576 * a + 65536 * b + c + imm % 65536) = a ∧ bV (16777216 * op + 1048576 * a + 65536 * b + c + imm % 65536) = b ∧
    cV (16777216 * op + 1048576 * a + 65536 * b + c + imm % 65536) = c ∧ immV (16777216 * op + 1048576 * a + 65536 * b + c + imm % 65536) = imm := by
  obtain ⟨b1, b2, b3, b4, b5, b6, b7, b8, b9, b10, b11⟩ := rightP_bounds h
  have ho : opV (16777216 * op + 1048576 * a + 65536 * b + c + imm % 65536) = op := by unfold opV; rcases b11 with rfl | rfl <;> omega
  have hlow : (16777216 * op + 1048576 * a + 65536 * b + c + imm % 65536) % 65536 = c + imm % 65536 := by rcases b11 with rfl | rfl <;> omega
  refine ⟨ho, by unfold aV; rcases b11 with rfl | rfl <;> omega, by unfold bV; rcases b11 with rfl | rfl <;> omega, ?_, ?_⟩
  · unfold cV
    rw [ho, hlow]
    unfold rightP at h
    split <;> omega
  · unfold immV
    rw [ho, hlow]
    unfold rightP at h
    unfold sx
    split
    · omega
    · split
      · split <;> omega
      · omega
theorem wordV_range (op a b c imm : Int) : 0 ≤ wordV op a b c imm ∧ wordV op a b c imm ≤ 4294967295 := by
  unfold wordV
  split
  · rename_i h
    obtain ⟨b1, b2, b3, b4, b5, b6, b7, b8, b9, b10, b11⟩ := rightP_bounds h
    rcases b11 with rfl | rfl <;> omega
  · omega
theorem ofR_word {op a b c imm : Int} (h : rightP op a b c imm) : ofR (wordV op a b c imm) = .tuple #[.agg #[.int .i64 op, .int .i64 a, .int .i64 b, .int .i64 c, .int .i64 imm], .int .i64 0] := by
  obtain ⟨h1, h2, h3, h4, h5⟩ := of_word h
  unfold wordV
  rw [if_pos h]
  unfold ofR ofB
  rw [h1, h2, h3, h4, h5]
  have hb : rightB op a b c imm = true := decide_eq_true h
  rw [hb]; rfl
theorem wordE_zero {op a b c imm : Int} (h : wordE op a b c imm = 0) : rightP op a b c imm := by
  unfold wordE at h
  by_cases hp : rightP op a b c imm
  · exact hp
  · rw [if_neg hp] at h; cases h

/-! Build goes on from what it has -/
theorem bu_grow (L : Names) (l : List S41) : ∀ (c C : Codes), l.foldl (buStep L) (.ok c) = .ok C → (∃ x, C.1 = c.1 ++ x) ∧ ∃ y, C.2 = c.2 ++ y := by
  induction l with
  | nil => intro c C h; cases h; exact ⟨⟨[], by simp⟩, ⟨[], by simp⟩⟩
  | cons x t ih =>
    intro c C h
    rw [List.foldl_cons] at h
    cases hs : buStep L (.ok c) x with
    | error e => rw [hs, bu_err] at h; cases h
    | ok c1 =>
      rw [hs] at h
      obtain ⟨⟨u, hu⟩, ⟨v, hv⟩⟩ := ih c1 C h
      have hg : (∃ x, c1.1 = c.1 ++ x) ∧ ∃ y, c1.2 = c.2 ++ y := by
        unfold buStep at hs
        simp only at hs
        split at hs
        · cases hs
        · split at hs
          · cases hs
          · split at hs
            · injection hs with hs
              subst hs
              unfold itemR
              (repeat' split) <;> simp only <;> first | exact ⟨⟨_, rfl⟩, ⟨_, rfl⟩⟩ | exact ⟨⟨_, rfl⟩, ⟨[], (List.append_nil _).symm⟩⟩ | exact ⟨⟨_, (List.append_assoc _ _ _)⟩, ⟨_, rfl⟩⟩ | exact ⟨⟨[], (List.append_nil _).symm⟩, ⟨[], (List.append_nil _).symm⟩⟩
            · cases hs
      obtain ⟨⟨u', hu'⟩, ⟨v', hv'⟩⟩ := hg
      exact ⟨⟨u' ++ u, by rw [hu, hu', List.append_assoc]⟩, ⟨v' ++ v, by rw [hv, hv', List.append_assoc]⟩⟩
/-- what is so of each item of code that is built -/
structure ItemOk (L : Names) (C c : Codes) (x : S41) : Prop where
  right : irightB x = true
  named : namedB x.f0 = true → hasN L x.f1 = true
  none : (itemR c x (lookN L x.f1)).1 = 0
  words : ∃ u, C.1 = (itemR c x (lookN L x.f1)).2.1 ++ u
  relocs : ∃ u, C.2 = (itemR c x (lookN L x.f1)).2.2 ++ u
theorem bu_item {L : Names} {l : List S41} {C : Codes} (h : buTo L l = .ok C) {i : Int} (h0 : 0 ≤ i) (h1 : i < l.length) {c : Codes} (hc : buTo L (l.take i.toNat) = .ok c) :
    ItemOk L C c (rd_T41 l i) ∧ buTo L (l.take (i + 1).toNat) = .ok (itemR c (rd_T41 l i) (lookN L (rd_T41 l i).f1)).2 := by
  have hst := bu_step (L := L) h0 h1
  rw [hc] at hst
  have hdie := fun e (he : buStep L (.ok c) (rd_T41 l i) = .error e) => bu_dies (L := L) (l := l) (e := e) h0 h1 (by rw [hc]; exact he)
  have hno : ∀ e, buStep L (.ok c) (rd_T41 l i) ≠ .error e := fun e he => by have := hdie e he; rw [h] at this; cases this
  have hr : irightB (rd_T41 l i) = true := by
    cases hq : irightB (rd_T41 l i) with
    | true => rfl
    | false => exact absurd (by unfold buStep; simp only; rw [if_pos hq]) (hno 1)
  have hn : (namedB (rd_T41 l i).f0 && !hasN L (rd_T41 l i).f1) = false := by
    cases hq : (namedB (rd_T41 l i).f0 && !hasN L (rd_T41 l i).f1) with
    | false => rfl
    | true => exact absurd (by unfold buStep; simp only; rw [if_neg (by rw [hr]; decide), if_pos hq]) (hno 5)
  have he : (itemR c (rd_T41 l i) (lookN L (rd_T41 l i).f1)).1 = 0 := by
    by_cases hz : (itemR c (rd_T41 l i) (lookN L (rd_T41 l i).f1)).1 = 0
    · exact hz
    · exact absurd (by unfold buStep; simp only; rw [if_neg (by rw [hr]; decide), if_neg (by rw [hn]; decide), if_neg hz]) (hno _)
  have hok : buStep L (.ok c) (rd_T41 l i) = .ok (itemR c (rd_T41 l i) (lookN L (rd_T41 l i).f1)).2 := by
    unfold buStep; simp only; rw [if_neg (by rw [hr]; decide), if_neg (by rw [hn]; decide), if_pos he]
  have hfin : (l.drop (i + 1).toNat).foldl (buStep L) (.ok (itemR c (rd_T41 l i) (lookN L (rd_T41 l i).f1)).2) = .ok C := by
    have hs : buTo L (l.take (i + 1).toNat ++ l.drop (i + 1).toNat) = .ok C := by rw [List.take_append_drop]; exact h
    unfold buTo at hs hst
    rw [List.foldl_append, hst, hok] at hs
    exact hs
  obtain ⟨gw, gr⟩ := bu_grow L _ _ _ hfin
  refine ⟨⟨hr, fun hnm => ?_, he, gw, gr⟩, by rw [hst]; exact hok⟩
  rw [hnm] at hn
  simpa using hn

/-! the labels' places are fours of words; a label's place is its own -/
def itemN (x : S41) : Nat := if x.f0 = 0 then 0 else if x.f0 = 3 then 2 else 1
theorem item_many (c : Codes) (x : S41) (dst : Int) (hk0 : 0 ≤ x.f0) (hk1 : x.f0 ≤ 5) : (itemR c x dst).2.1.length = c.1.length + itemN x := by
  unfold itemR itemN
  by_cases h1 : x.f0 = 1
  · rw [if_pos h1, if_neg (by omega), if_neg (by omega)]; simp
  rw [if_neg h1]
  by_cases h2 : x.f0 = 2
  · rw [if_pos h2, if_neg (by omega), if_neg (by omega)]; simp
  rw [if_neg h2]
  by_cases h3 : x.f0 = 3
  · rw [if_pos h3, if_neg (by omega), if_pos h3]; simp
  rw [if_neg h3]
  by_cases h4 : x.f0 = 4
  · rw [if_pos h4, if_neg (by omega), if_neg (by omega)]; simp
  rw [if_neg h4]
  by_cases h5 : x.f0 = 5
  · rw [if_pos h5, if_neg (by omega), if_neg (by omega)]; simp
  rw [if_neg h5, if_pos (by omega)]; rfl
def sumN (l : List S41) : Nat := (l.map itemN).sum
theorem bu_sum {L : Names} (l : List S41) (hg : ∀ x ∈ l, 0 ≤ x.f0 ∧ x.f0 ≤ 5) : ∀ (c C : Codes), l.foldl (buStep L) (.ok c) = .ok C → C.1.length = c.1.length + sumN l := by
  induction l with
  | nil => intro c C h; cases h; simp [sumN]
  | cons x t ih =>
    intro c C h
    rw [List.foldl_cons] at h
    cases hs : buStep L (.ok c) x with
    | error e => rw [hs, bu_err] at h; cases h
    | ok c1 =>
      rw [hs] at h
      have h2 := ih (fun y hy => hg y (List.mem_cons_of_mem _ hy)) c1 C h
      have hx := hg x List.mem_cons_self
      unfold buStep at hs
      simp only at hs
      split at hs
      · cases hs
      · split at hs
        · cases hs
        · split at hs
          · injection hs with hs
            subst hs
            rw [h2, item_many _ _ _ hx.1 hx.2]
            simp [sumN]
            omega
          · cases hs
theorem pl_sum (l : List S41) : ∀ (L0 : Names) (a0 : Int) L a, l.foldl plStep (some (L0, a0)) = some (L, a) → a = a0 + 4 * sumN l ∧ (∃ u, L = L0 ++ u) := by
  induction l with
  | nil => intro L0 a0 L a h; cases h; simp [sumN]
  | cons x t ih =>
    intro L0 a0 L a h
    rw [List.foldl_cons] at h
    unfold plStep at h
    simp only at h
    by_cases hk : x.f0 = 0
    · rw [if_pos hk] at h
      by_cases hh : hasN L0 x.f1 = true
      · rw [if_pos hh] at h
        have := pl_none t
        unfold plStep at this
        rw [this] at h; cases h
      · rw [if_neg hh] at h
        obtain ⟨r1, ⟨u, r2⟩⟩ := ih _ _ L a h
        refine ⟨?_, ⟨_, by rw [r2, List.append_assoc]⟩⟩
        rw [r1]; simp [sumN, itemN, hk]
    · rw [if_neg hk] at h
      obtain ⟨r1, ⟨u, r2⟩⟩ := ih _ _ L a h
      refine ⟨?_, ⟨u, r2⟩⟩
      rw [r1]; simp [sumN, itemN, hk]; split <;> omega
theorem pl_four (l : List S41) : ∀ (L0 : Names) (a0 : Int), a0 % 4 = 0 → (∀ p ∈ L0, p.2 % 4 = 0) → ∀ L a, l.foldl plStep (some (L0, a0)) = some (L, a) → ∀ p ∈ L, p.2 % 4 = 0 := by
  induction l with
  | nil => intro L0 a0 h0 hn L a h; cases h; exact hn
  | cons x t ih =>
    intro L0 a0 h0 hn L a h
    rw [List.foldl_cons] at h
    unfold plStep at h
    simp only at h
    by_cases hk : x.f0 = 0
    · rw [if_pos hk] at h
      by_cases hh : hasN L0 x.f1 = true
      · rw [if_pos hh] at h
        have := pl_none t
        unfold plStep at this
        rw [this] at h; cases h
      · rw [if_neg hh] at h
        refine ih _ _ h0 ?_ L a h
        intro p hp
        rcases List.mem_append.mp hp with h | h
        · exact hn p h
        · simp at h; subst h; exact h0
    · rw [if_neg hk] at h
      exact ih _ _ (by split <;> omega) hn L a h
theorem hasN_look_new {L0 u : Names} {s : ByteArray} {n : Int} (h : hasN L0 s = false) : lookN (L0 ++ [(s, n)] ++ u) s = n := by
  have hnone : L0.find? (fun p => decide (p.1 = s)) = none := by
    rw [List.find?_eq_none]
    intro p hp
    have := List.any_eq_false.mp h p hp
    simpa using this
  unfold lookN
  rw [List.append_assoc, List.find?_append, hnone]
  simp
structure NamesOk (l : List S41) (L : Names) : Prop where
  four : ∀ s, lookN L s % 4 = 0
  label : ∀ i : Int, 0 ≤ i → i < l.length → (rd_T41 l i).f0 = 0 → lookN L (rd_T41 l i).f1 = 4 * sumN (l.take i.toNat)
theorem names_ok {l : List S41} {L : Names} (h : placesR l = .ok L) : NamesOk l L := by
  obtain ⟨hl, hg, hin⟩ := places_in h
  have hp : ∃ a, plTo l = some (L, a) := by
    unfold placesR at h
    rw [if_neg (by omega), if_neg (by rw [hg]; decide)] at h
    cases hq : plTo l with
    | none => rw [hq] at h; cases h
    | some p => obtain ⟨L', a⟩ := p; rw [hq] at h; injection h with h; subst h; exact ⟨a, rfl⟩
  obtain ⟨a, hp⟩ := hp
  constructor
  · intro s
    unfold lookN
    cases hf : L.find? (fun p => decide (p.1 = s)) with
    | none => rfl
    | some p => exact pl_four l [] 0 rfl (by intro p hp; cases hp) L a hp p (List.mem_of_find?_eq_some hf)
  · intro i h0 h1 hk
    have hall : plTo (l.take (i + 1).toNat ++ l.drop (i + 1).toNat) = some (L, a) := by rw [List.take_append_drop]; exact hp
    unfold plTo at hall
    rw [List.foldl_append] at hall
    have hs := pl_step h0 h1
    unfold plTo at hs
    rw [hs] at hall
    cases hq : List.foldl plStep (some ([], 0)) (l.take i.toNat) with
    | none => rw [hq] at hall; simp only [plStep] at hall; rw [pl_none] at hall; cases hall
    | some p =>
      obtain ⟨L0, a0⟩ := p
      rw [hq] at hall
      obtain ⟨ha0, _⟩ := pl_sum (l.take i.toNat) [] 0 L0 a0 hq
      have hstep : plStep (some (L0, a0)) (rd_T41 l i) = if hasN L0 (rd_T41 l i).f1 = true then none else some (L0 ++ [((rd_T41 l i).f1, a0)], a0) := by
        unfold plStep; simp only; rw [if_pos hk]
      rw [hstep] at hall
      by_cases hh : hasN L0 (rd_T41 l i).f1 = true
      · rw [if_pos hh, pl_none] at hall; cases hall
      · rw [if_neg hh] at hall
        obtain ⟨_, ⟨u, hu⟩⟩ := pl_sum _ _ _ _ _ hall
        rw [hu, hasN_look_new (by simpa using hh), ha0]
        omega
end Go.Proofs.Ythnbpbmbpggadaa.Mine
