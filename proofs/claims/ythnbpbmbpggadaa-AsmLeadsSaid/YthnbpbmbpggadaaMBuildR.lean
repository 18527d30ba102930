/- Build in plain lists. -/
import Derived.Test.YthnbpbmbpggadaaMIright
namespace Go.Proofs.Ythnbpbmbpggadaa.Mine
open Go.RowKit Go.Proofs.YthnbpbmbpggadaaW.PrintWords Go.Proofs.YthnbpbmbpggadaaW.PrintLast Go.Proofs.YthnbpbmbpggadaaW.PrintMore
open Go.Proofs.Ythnbpbmbpggadaa.PAsmLeads
open Go.WideMaps Go.Maps
set_option linter.unusedSimpArgs false
set_option linter.unusedVariables false

abbrev Codes := List Int × List (Int × Bool)
/-- what an item lays: an error's number, and the code behind it -/
def itemR (c : Codes) (x : S41) (dst : Int) : Int × Codes :=
  if x.f0 = 1 then (wordE x.f2.f0 x.f2.f1 x.f2.f2 x.f2.f3 x.f2.f4, c.1 ++ [wordV x.f2.f0 x.f2.f1 x.f2.f2 x.f2.f3 x.f2.f4], c.2)
  else if x.f0 = 2 then (errG (wordE x.f2.f0 x.f2.f1 x.f2.f2 x.f2.f3 ((dst - 4 * c.1.length - 4).tdiv 4)), c.1 ++ [wordV x.f2.f0 x.f2.f1 x.f2.f2 x.f2.f3 ((dst - 4 * c.1.length - 4).tdiv 4)], c.2)
  else if x.f0 = 3 then (0, c.1 ++ [wordV 1 x.f2.f1 0 0 (dst % 65536)] ++ [wordV 2 x.f2.f1 0 0 (dst / 65536)], c.2 ++ [((4 * c.1.length : Int), true)])
  else if x.f0 = 4 then (0, c.1 ++ [x.f3], c.2)
  else if x.f0 = 5 then (0, c.1 ++ [dst], c.2 ++ [((4 * c.1.length : Int), false)])
  else (0, c)
theorem item_any (base g : Nat) (vw vr : Value) (c : Codes) (x : S41) (dst : Int) (w : World) (hC : IsCode w base g vw vr c.1 c.2) (hlen : c.1.length ≤ 16384) (hrl : c.2.length ≤ 16384) (ht0 : 0 ≤ dst) (ht1 : dst ≤ 1000000) (hk0 : 0 ≤ x.f0) (hk1 : x.f0 ≤ 5) :
    Calls Try.prog 55 #[.pointer (some ⟨g, 0, none⟩), boxA x, .int .i64 dst] w (CodePost base g w (itemR c x dst).1 (itemR c x dst).2.1 (itemR c x dst).2.2) := by
  obtain ⟨ws, rs⟩ := c
  obtain ⟨kind, nm, ⟨op, a, b, c, imm⟩, wd⟩ := x
  unfold itemR
  simp only at *
  by_cases h1 : kind = 1
  · subst h1; exact item_do base g vw vr ws rs nm op a b c imm wd dst w hC hlen hrl ht0 ht1
  rw [if_neg h1]
  by_cases h2 : kind = 2
  · subst h2; exact item_go base g vw vr ws rs nm op a b c imm wd dst w hC hlen hrl ht0 ht1
  rw [if_neg h2]
  by_cases h3 : kind = 3
  · subst h3; exact item_addr base g vw vr ws rs nm op a b c imm wd dst w hC hlen hrl ht0 ht1
  rw [if_neg h3]
  by_cases h4 : kind = 4
  · subst h4; exact item_data base g vw vr ws rs nm op a b c imm wd dst w hC hlen hrl ht0 ht1
  rw [if_neg h4]
  by_cases h5 : kind = 5
  · subst h5; exact item_place base g vw vr ws rs nm op a b c imm wd dst w hC hlen hrl ht0 ht1
  rw [if_neg h5]
  have : kind = 0 := by omega
  subst this
  exact item_label base g vw vr ws rs nm op a b c imm wd dst w hC hlen hrl ht0 ht1
theorem item_len (c : Codes) (x : S41) (dst : Int) : (itemR c x dst).2.1.length ≤ c.1.length + 2 ∧ (itemR c x dst).2.2.length ≤ c.2.length + 1 := by
  unfold itemR
  repeat' split
  all_goals simp

/-- has a kind a label's name? -/
def namedB (k : Int) : Bool := k == 2 || k == 3 || k == 5
theorem named_any (k : Int) (w : World) : Calls Try.prog 54 #[.int .i64 k] w fun e w' => e = .returned (.bool (namedB k)) ∧ Drawn0 w w' :=
  asm_named.calls k _ w (by
    unfold asm_named.f namedB
    by_cases h2 : k = 2
    · rw [if_pos h2]; simp [h2]
    · rw [if_neg h2]
      by_cases h3 : k = 3
      · rw [if_pos h3]; simp [h3]
      · rw [if_neg h3]; simp [h2, h3])
/-- a step of Build -/
def buStep (L : Names) (st : Except Int Codes) (x : S41) : Except Int Codes :=
  match st with
  | .error e => .error e
  | .ok c => if irightB x = false then .error 1 else if (namedB x.f0 && !hasN L x.f1) = true then .error 5 else
      if (itemR c x (lookN L x.f1)).1 = 0 then .ok (itemR c x (lookN L x.f1)).2 else .error (itemR c x (lookN L x.f1)).1
def buTo (L : Names) (l : List S41) : Except Int Codes := l.foldl (buStep L) (.ok ([], []))
def buildR (l : List S41) : Except Int Codes :=
  match placesR l with
  | .error e => .error e
  | .ok L => buTo L l
theorem bu_err (L : Names) (e : Int) (l : List S41) : l.foldl (buStep L) (.error e) = .error e := by
  induction l with
  | nil => rfl
  | cons x t ih => exact ih
theorem bu_step {L : Names} {l : List S41} {i : Int} (h0 : 0 ≤ i) (h1 : i < l.length) : buTo L (l.take (i + 1).toNat) = buStep L (buTo L (l.take i.toNat)) (rd_T41 l i) := by
  rw [take_snoc l i h0 h1]; unfold buTo; rw [List.foldl_append]; rfl
theorem bu_dies {L : Names} {l : List S41} {i e : Int} (h0 : 0 ≤ i) (h1 : i < l.length) (h : buStep L (buTo L (l.take i.toNat)) (rd_T41 l i) = .error e) : buTo L l = .error e := by
  have he : l = l.take (i + 1).toNat ++ l.drop (i + 1).toNat := (List.take_append_drop _ _).symm
  have hs := bu_step (L := L) h0 h1
  rw [h] at hs
  rw [he]
  unfold buTo at hs ⊢
  rw [List.foldl_append, hs, bu_err]
/-- the labels' places are small -/
def NamesIn (L : Names) (m : Int) : Prop := ∀ p ∈ L, 0 ≤ p.2 ∧ p.2 ≤ m
theorem pl_in (l : List S41) : ∀ (L0 : Names) (a0 : Int), 0 ≤ a0 → NamesIn L0 a0 → ∀ L a, l.foldl plStep (some (L0, a0)) = some (L, a) → 0 ≤ a ∧ a ≤ a0 + 8 * l.length ∧ NamesIn L a := by
  induction l with
  | nil => intro L0 a0 h0 hn L a h; cases h; exact ⟨h0, by simp, hn⟩
  | cons x t ih =>
    intro L0 a0 h0 hn L a h
    rw [List.foldl_cons] at h
    have hstep : plStep (some (L0, a0)) x = none ∨ ∃ L1 a1, plStep (some (L0, a0)) x = some (L1, a1) ∧ 0 ≤ a1 ∧ a1 ≤ a0 + 8 ∧ NamesIn L1 a1 := by
      unfold plStep
      simp only
      split
      · split
        · exact Or.inl rfl
        · refine Or.inr ⟨_, _, rfl, h0, by omega, ?_⟩
          intro p hp
          rcases List.mem_append.mp hp with h | h
          · exact hn p h
          · simp at h; subst h; exact ⟨h0, Int.le_refl _⟩
      · refine Or.inr ⟨_, _, rfl, ?_, ?_, ?_⟩
        · split <;> omega
        · split <;> omega
        · intro p hp
          have := hn p hp
          split <;> omega
    rcases hstep with hs | ⟨L1, a1, hs, h1, h2, h3⟩
    · rw [hs, pl_none] at h; cases h
    · rw [hs] at h
      obtain ⟨r1, r2, r3⟩ := ih L1 a1 h1 h3 L a h
      refine ⟨r1, ?_, r3⟩
      rw [List.length_cons]
      omega
theorem lookN_in {L : Names} {m : Int} (h : NamesIn L m) (hm : 0 ≤ m) (s : ByteArray) : 0 ≤ lookN L s ∧ lookN L s ≤ m := by
  unfold lookN
  cases hf : L.find? (fun p => decide (p.1 = s)) with
  | none => exact ⟨Int.le_refl _, hm⟩
  | some p => exact h p (List.mem_of_find?_eq_some hf)
theorem places_in {l : List S41} {L : Names} (h : placesR l = .ok L) : l.length ≤ 4096 ∧ l.any badB = false ∧ NamesIn L 32768 := by
  unfold placesR at h
  by_cases h1 : 4096 < l.length
  · rw [if_pos h1] at h; cases h
  rw [if_neg h1] at h
  by_cases h2 : l.any badB = true
  · rw [if_pos h2] at h; cases h
  rw [if_neg h2] at h
  refine ⟨by omega, by simpa using h2, ?_⟩
  cases hp : plTo l with
  | none => rw [hp] at h; cases h
  | some p =>
    obtain ⟨L', a⟩ := p
    rw [hp] at h
    injection h with h
    subst h
    obtain ⟨r1, r2, r3⟩ := pl_in l [] 0 (Int.le_refl _) (by intro p hp; cases hp) L' a hp
    intro p hpm
    have := r3 p hpm
    omega
theorem good_kind {l : List S41} (h : l.any badB = false) {x : S41} (hx : x ∈ l) : 0 ≤ x.f0 ∧ x.f0 ≤ 5 := by
  have := List.any_eq_false.mp h x hx
  unfold badB at this
  simp at this
  omega
theorem own_map_km {g : Nat} {w w' : World} {b n : Nat} {D : DataW Unit} (h : w.ownsMap Try.prog 9 (plainElem Try.prog 3) b n D) (hk : KM g w w') (hg : b ≠ g) : w'.ownsMap Try.prog 9 (plainElem Try.prog 3) b n D := by
  obtain ⟨es, c, h1, h2, h3, h4⟩ := h
  exact ⟨es, c, hk _ _ h1 hg (by rintro ⟨cur, e, f, h, _⟩; cases h), h2, h3, h4⟩
end Go.Proofs.Ythnbpbmbpggadaa.Mine
