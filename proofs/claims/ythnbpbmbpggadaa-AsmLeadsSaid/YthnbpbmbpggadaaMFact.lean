/- What an item lays, read back from the whole code. -/
import Derived.Test.YthnbpbmbpggadaaMRows
namespace Go.Proofs.Ythnbpbmbpggadaa.Mine
open Go.RowKit Go.Proofs.YthnbpbmbpggadaaW.PrintWords Go.Proofs.YthnbpbmbpggadaaW.PrintLast Go.Proofs.YthnbpbmbpggadaaW.PrintMore
open Go.Proofs.Ythnbpbmbpggadaa.PAsmLeads

set_option linter.unusedSimpArgs false
set_option linter.unusedVariables false

theorem rd_mid (p u : List Int) (a : Int) : rd (p ++ [a] ++ u) p.length = a := by
  unfold rd
  simp [List.getD]
theorem rd_mid2 (p u : List Int) (a b : Int) : rd (p ++ [a] ++ [b] ++ u) p.length = a ∧ rd (p ++ [a] ++ [b] ++ u) (p.length + 1) = b := by
  constructor
  · have := rd_mid p ([b] ++ u) a
    rw [← List.append_assoc] at this
    exact this
  · have := rd_mid (p ++ [a]) u b
    simpa using this
theorem rdR_mid (p u : List (Int × Bool)) (a : Int × Bool) : rd_T46 ((p ++ [a] ++ u).map toR) p.length = ⟨a.1, a.2⟩ := by
  unfold rd_T46
  simp [List.getD, toR]

/-- an instruction, as Of tells it -/
abbrev ofT (op a b c imm : Int) : Value := .tuple #[.agg #[.int .i64 op, .int .i64 a, .int .i64 b, .int .i64 c, .int .i64 imm], .int .i64 0]

structure LeadAll (l : List S41) (L : Names) (C c : Codes) (x : S41) (i : Int) : Prop where
  k0 : 0 ≤ x.f0
  k1 : x.f0 ≤ 5
  d0 : 0 ≤ lookN L x.f1
  d1 : lookN L x.f1 ≤ 32768
  lenC : C.1.length ≤ 8192
  fit : c.1.length + itemN x ≤ C.1.length
  fitr : c.2.length ≤ C.2.length
  next : buTo L (l.take (i + 1).toNat) = .ok (itemR c x (lookN L x.f1)).2

theorem sumN_le (l : List S41) : sumN l ≤ 2 * l.length := by
  induction l with
  | nil => simp [sumN]
  | cons x t ih =>
    have : sumN (x :: t) = itemN x + sumN t := by simp [sumN]
    rw [this, List.length_cons]
    have hx : itemN x ≤ 2 := by unfold itemN; split <;> (try split) <;> omega
    omega
theorem itemR_len2 (c : Codes) (x : S41) (dst : Int) : c.2.length ≤ (itemR c x dst).2.2.length := by
  unfold itemR
  repeat' split
  all_goals simp
theorem all_good {l : List S41} (h : l.any badB = false) : ∀ x ∈ l, 0 ≤ x.f0 ∧ x.f0 ≤ 5 := fun x hx => good_kind h hx

theorem lead_all {l : List S41} {L : Names} {C : Codes} (hp : placesR l = .ok L) (h : buTo L l = .ok C) {i : Int} (h0 : 0 ≤ i) (h1 : i < l.length) {c : Codes} (hc : buTo L (l.take i.toNat) = .ok c) :
    LeadAll l L C c (rd_T41 l i) i ∧ ItemOk L C c (rd_T41 l i) := by
  obtain ⟨hl, hg, hin⟩ := places_in hp
  obtain ⟨hi, hn⟩ := bu_item h h0 h1 hc
  have hk := good_kind hg (rd_mem h0 h1)
  have hd := lookN_in hin (by decide) (rd_T41 l i).f1
  have hs : C.1.length = 0 + sumN l := bu_sum l (all_good hg) ([], []) C h
  have hsl := sumN_le l
  obtain ⟨u, hu⟩ := hi.words
  obtain ⟨v, hv⟩ := hi.relocs
  have hm := item_many c (rd_T41 l i) (lookN L (rd_T41 l i).f1) hk.1 hk.2
  have hm2 := itemR_len2 c (rd_T41 l i) (lookN L (rd_T41 l i).f1)
  refine ⟨⟨hk.1, hk.2, hd.1, hd.2, by omega, ?_, ?_, hn⟩, hi⟩
  · rw [hu, List.length_append, hm]; omega
  · rw [hv, List.length_append]; omega

theorem lead_label {l : List S41} {L : Names} (hp : placesR l = .ok L) {i : Int} (h0 : 0 ≤ i) (h1 : i < l.length) {c : Codes} (hc : buTo L (l.take i.toNat) = .ok c) (hk : (rd_T41 l i).f0 = 0) :
    lookN L (rd_T41 l i).f1 = 4 * c.1.length ∧ (itemR c (rd_T41 l i) (lookN L (rd_T41 l i).f1)).2 = c := by
  obtain ⟨hl, hg, hin⟩ := places_in hp
  have hs : c.1.length = 0 + sumN (l.take i.toNat) := bu_sum _ (fun x hx => all_good hg x (List.mem_of_mem_take hx)) ([], []) c hc
  refine ⟨by rw [(names_ok hp).label i h0 h1 hk, hs]; simp, ?_⟩
  unfold itemR
  rw [hk]
  simp
theorem lead_do {L : Names} {C c : Codes} {x : S41} (h : ItemOk L C c x) (hk : x.f0 = 1) :
    ofR (rd C.1 c.1.length) = ofT x.f2.f0 x.f2.f1 x.f2.f2 x.f2.f3 x.f2.f4 ∧ 0 ≤ rd C.1 c.1.length ∧ rd C.1 c.1.length ≤ 4294967295 ∧ (itemR c x (lookN L x.f1)).2.1.length = c.1.length + 1 ∧ (itemR c x (lookN L x.f1)).2.2 = c.2 := by
  have hn := h.none
  obtain ⟨u, hu⟩ := h.words
  unfold itemR at hn hu ⊢
  rw [if_pos hk] at hn hu ⊢
  simp only at hn hu ⊢
  rw [hu, rd_mid]
  exact ⟨ofR_word (wordE_zero hn), (wordV_range _ _ _ _ _).1, (wordV_range _ _ _ _ _).2, by simp, trivial⟩
theorem lead_go {L : Names} {C c : Codes} {x : S41} (h : ItemOk L C c x) (hk : x.f0 = 2) (h4 : lookN L x.f1 % 4 = 0) :
    hasN L x.f1 = true ∧ (∃ imm, ofR (rd C.1 c.1.length) = ofT x.f2.f0 x.f2.f1 x.f2.f2 x.f2.f3 imm ∧ 4 * (c.1.length : Int) + 4 + 4 * imm = lookN L x.f1 ∧ -32768 ≤ imm ∧ imm ≤ 65535) ∧ 0 ≤ rd C.1 c.1.length ∧ rd C.1 c.1.length ≤ 4294967295 ∧ (itemR c x (lookN L x.f1)).2.1.length = c.1.length + 1 ∧ (itemR c x (lookN L x.f1)).2.2 = c.2 := by
  have hn := h.none
  obtain ⟨u, hu⟩ := h.words
  have hh := h.named (by rw [hk]; rfl)
  unfold itemR at hn hu ⊢
  rw [if_neg (by omega), if_pos hk] at hn hu ⊢
  simp only at hn hu ⊢
  rw [hu, rd_mid]
  have he : wordE x.f2.f0 x.f2.f1 x.f2.f2 x.f2.f3 ((lookN L x.f1 - 4 * c.1.length - 4).tdiv 4) = 0 := by
    unfold errG at hn
    by_cases hz : wordE x.f2.f0 x.f2.f1 x.f2.f2 x.f2.f3 ((lookN L x.f1 - 4 * c.1.length - 4).tdiv 4) = 0
    · exact hz
    · rw [if_neg hz] at hn; cases hn
  have hr := wordE_zero he
  have hd : (lookN L x.f1 - 4 * c.1.length - 4).tdiv 4 = lookN L x.f1 / 4 - c.1.length - 1 := by
    have : lookN L x.f1 - 4 * c.1.length - 4 = (lookN L x.f1 / 4 - c.1.length - 1) * 4 := by omega
    rw [this, Int.mul_tdiv_cancel _ (by decide)]
  refine ⟨hh, ⟨_, ofR_word hr, by rw [hd]; omega, ?_, ?_⟩, (wordV_range _ _ _ _ _).1, (wordV_range _ _ _ _ _).2, by simp, trivial⟩ <;> (unfold rightP at hr; omega)
theorem lead_addr {L : Names} {C c : Codes} {x : S41} (h : ItemOk L C c x) (hk : x.f0 = 3) (h0 : 0 ≤ lookN L x.f1) (h1 : lookN L x.f1 ≤ 32768) :
    (∃ p q, ofR (rd C.1 c.1.length) = ofT 1 x.f2.f1 0 0 p ∧ ofR (rd C.1 (c.1.length + 1)) = ofT 2 x.f2.f1 0 0 q ∧ p + 65536 * q = lookN L x.f1 ∧ 0 ≤ p ∧ p ≤ 65535 ∧ 0 ≤ q ∧ q ≤ 65535) ∧ 0 ≤ rd C.1 c.1.length ∧ rd C.1 c.1.length ≤ 4294967295 ∧ 0 ≤ rd C.1 (c.1.length + 1) ∧ rd C.1 (c.1.length + 1) ≤ 4294967295 ∧
    rd_T46 (C.2.map toR) c.2.length = ⟨4 * c.1.length, true⟩ ∧ c.2.length < C.2.length ∧ (itemR c x (lookN L x.f1)).2.1.length = c.1.length + 2 ∧ (itemR c x (lookN L x.f1)).2.2.length = c.2.length + 1 := by
  obtain ⟨u, hu⟩ := h.words
  obtain ⟨v, hv⟩ := h.relocs
  have hi := h.right
  unfold irightB at hi
  rw [if_neg (by omega), if_neg (by omega), if_pos hk] at hi
  unfold rightB at hi
  simp only [Bool.and_eq_true, decide_eq_true_eq] at hi
  obtain ⟨hr, hi4, hi0⟩ := hi
  have ha : 0 ≤ x.f2.f1 ∧ x.f2.f1 ≤ 15 := by unfold rightP at hr; omega
  unfold itemR at hu hv ⊢
  rw [if_neg (by omega), if_neg (by omega), if_pos hk] at hu hv ⊢
  simp only at hu hv ⊢
  have r1 : rightP 1 x.f2.f1 0 0 (lookN L x.f1 % 65536) := by unfold rightP; omega
  have r2 : rightP 2 x.f2.f1 0 0 (lookN L x.f1 / 65536) := by unfold rightP; omega
  rw [hu, hv, (rd_mid2 _ _ _ _).1, (rd_mid2 _ _ _ _).2, rdR_mid]
  refine ⟨⟨_, _, ofR_word r1, ofR_word r2, by omega, by omega, by omega, by omega, by omega⟩, (wordV_range _ _ _ _ _).1, (wordV_range _ _ _ _ _).2, (wordV_range _ _ _ _ _).1, (wordV_range _ _ _ _ _).2, rfl, by simp, by simp, by simp⟩
theorem lead_data {L : Names} {C c : Codes} {x : S41} (h : ItemOk L C c x) (hk : x.f0 = 4) :
    rd C.1 c.1.length = x.f3 ∧ (itemR c x (lookN L x.f1)).2.1.length = c.1.length + 1 ∧ (itemR c x (lookN L x.f1)).2.2 = c.2 := by
  obtain ⟨u, hu⟩ := h.words
  unfold itemR at hu ⊢
  rw [if_neg (by omega), if_neg (by omega), if_neg (by omega), if_pos hk] at hu ⊢
  simp only at hu ⊢
  rw [hu, rd_mid]
  exact ⟨rfl, by simp, trivial⟩
theorem lead_place {L : Names} {C c : Codes} {x : S41} (h : ItemOk L C c x) (hk : x.f0 = 5) :
    rd C.1 c.1.length = lookN L x.f1 ∧ rd_T46 (C.2.map toR) c.2.length = ⟨4 * c.1.length, false⟩ ∧ c.2.length < C.2.length ∧ (itemR c x (lookN L x.f1)).2.1.length = c.1.length + 1 ∧ (itemR c x (lookN L x.f1)).2.2.length = c.2.length + 1 := by
  obtain ⟨u, hu⟩ := h.words
  obtain ⟨v, hv⟩ := h.relocs
  unfold itemR at hu hv ⊢
  rw [if_neg (by omega), if_neg (by omega), if_neg (by omega), if_neg (by omega), if_pos hk] at hu hv ⊢
  simp only at hu hv ⊢
  rw [hu, hv, rd_mid, rdR_mid]
  exact ⟨rfl, rfl, by simp, by simp, by simp⟩

/-! own(l), Large: they end -/
def toOwn (x : S41) : S123 := ⟨x.f0, x.f1, ⟨x.f2.f0, x.f2.f1, x.f2.f2, x.f2.f3, x.f2.f4⟩, x.f3⟩
theorem own_loop (l : List S41) (hl : l.length < 1954687338268) : ∀ (n : Nat) (i : Nat) (acc : List S123), n = l.length - i → i ≤ l.length → acc.length = i → ∃ r, carapacelaw12_own.l0 (n + 1) l acc i = some r ∧ r.length = l.length := by
  intro n
  induction n with
  | zero =>
    intro i acc hn hi ha
    refine ⟨acc, ?_, by omega⟩
    unfold carapacelaw12_own.l0
    rw [if_neg (by omega)]
  | succ n ih =>
    intro i acc hn hi ha
    unfold carapacelaw12_own.l0
    rw [if_pos (by omega), if_pos (by omega), if_pos (by omega)]
    have hw : wrap64 ((i : Int) + 1) = ((i + 1 : Nat) : Int) := by
      rw [show ((i + 1 : Nat) : Int) = (i : Int) + 1 from by omega]
      unfold wrap64; omega
    rw [hw]
    exact ih (i + 1) _ (by omega) (by omega) (by simp [ha])
theorem own_ends (l : List S41) (hl : l.length < 1954687338268) : ∃ k r, carapacelaw12_own.f k l = some r ∧ r.length = l.length := by
  obtain ⟨r, h⟩ := own_loop l hl l.length 0 [] (by omega) (by omega) rfl
  exact ⟨_, r, h⟩
theorem large_loop (l : List S123) (hl : l.length < 9000000000000000000) : ∀ (n : Nat) (i : Nat) (m : Int), n = l.length - i → i ≤ l.length → ∃ r, carapaceref12_Large.l0 (n + 1) l m i = some r := by
  intro n
  induction n with
  | zero =>
    intro i m hn hi
    unfold carapaceref12_Large.l0
    rw [if_neg (by omega)]
    repeat' split
    all_goals exact ⟨_, rfl⟩
  | succ n ih =>
    intro i m hn hi
    unfold carapaceref12_Large.l0
    rw [if_pos (by omega)]
    by_cases hm : m < 100000
    · rw [if_pos hm, if_pos (by omega)]
      have hw : wrap64 ((i : Int) + 1) = ((i + 1 : Nat) : Int) := by
        rw [show ((i + 1 : Nat) : Int) = (i : Int) + 1 from by omega]
        unfold wrap64; omega
      rw [hw]
      exact ih (i + 1) _ (by omega) (by omega)
    · rw [if_neg hm]
      repeat' split
      all_goals exact ⟨_, rfl⟩
theorem large_ends (l : List S123) (hl : l.length < 9000000000000000000) : ∃ k r, carapaceref12_Large.f k l = some r := by
  obtain ⟨r, h⟩ := large_loop l hl l.length 0 0 (by omega) (by omega)
  exact ⟨_, r, h⟩
/-! an error of Build is no 0 -/
theorem build_code {l : List S41} {e : Int} (h : buildR l = .error e) : e ≠ 0 := by
  have hpl : ∀ e, placesR l = .error e → e ≠ 0 := by
    intro e h
    unfold placesR at h
    split at h
    · injection h with h; subst h; decide
    · split at h
      · injection h with h; subst h; decide
      · cases hq : plTo l with
        | none => rw [hq] at h; injection h with h; subst h; decide
        | some p => rw [hq] at h; cases h
  unfold buildR at h
  cases hp : placesR l with
  | error c => rw [hp] at h; injection h with h; subst h; exact hpl _ hp
  | ok L =>
    rw [hp] at h
    have key : ∀ (t : List S41) (c : Codes), t.foldl (buStep L) (.ok c) = .error e → e ≠ 0 := by
      intro t
      induction t with
      | nil => intro c h; cases h
      | cons x t ih =>
        intro c h
        rw [List.foldl_cons] at h
        cases hs : buStep L (.ok c) x with
        | ok c1 => rw [hs] at h; exact ih c1 h
        | error e1 =>
          rw [hs, bu_err] at h
          injection h with h
          subst h
          unfold buStep at hs
          simp only at hs
          split at hs
          · injection hs with hs; subst hs; decide
          · split at hs
            · injection hs with hs; subst hs; decide
            · split at hs
              · cases hs
              · rename_i hne; injection hs with hs; subst hs; exact hne
    exact key l ([], []) h
end Go.Proofs.Ythnbpbmbpggadaa.Mine
