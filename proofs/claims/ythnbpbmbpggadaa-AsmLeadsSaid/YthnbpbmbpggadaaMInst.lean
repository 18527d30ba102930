/- What inst.Right, inst.Word and inst.Of answer. -/
import Derived.Test.YthnbpbmbpggadaaMRight
import Derived.Test.YthnbpbmbpggadaaMBits
namespace Go.Proofs.Ythnbpbmbpggadaa.Mine
open Go.RowKit Go.Proofs.YthnbpbmbpggadaaW.PrintWords Go.Proofs.YthnbpbmbpggadaaW.PrintLast Go.Proofs.YthnbpbmbpggadaaW.PrintMore
open Go.Proofs.Ythnbpbmbpggadaa.PAsmLeads
set_option linter.unusedSimpArgs false
set_option linter.unusedVariables false

/-- which instructions may be -/
def rightP (op a b c imm : Int) : Prop :=
  (op = 0 ∧ a = 0 ∧ b = 0 ∧ c = 0 ∧ 0 ≤ imm ∧ imm ≤ 65535) ∨
  ((op = 1 ∨ op = 2) ∧ 0 ≤ a ∧ a ≤ 15 ∧ b = 0 ∧ c = 0 ∧ 0 ≤ imm ∧ imm ≤ 65535) ∨
  (3 ≤ op ∧ op ≤ 10 ∧ 0 ≤ a ∧ a ≤ 15 ∧ 0 ≤ b ∧ b ≤ 15 ∧ 0 ≤ c ∧ c ≤ 15 ∧ imm = 0) ∨
  (11 ≤ op ∧ op ≤ 19 ∧ 0 ≤ a ∧ a ≤ 15 ∧ 0 ≤ b ∧ b ≤ 15 ∧ c = 0 ∧ -32768 ≤ imm ∧ imm ≤ 32767) ∨
  (op = 20 ∧ 0 ≤ a ∧ a ≤ 15 ∧ b = 0 ∧ c = 0 ∧ -32768 ≤ imm ∧ imm ≤ 32767) ∨
  (op = 21 ∧ 0 ≤ a ∧ a ≤ 15 ∧ b = 0 ∧ c = 0 ∧ imm = 0)
instance (op a b c imm : Int) : Decidable (rightP op a b c imm) := by unfold rightP; infer_instance
def rightB (op a b c imm : Int) : Bool := decide (rightP op a b c imm)

theorem right_shape (op a b c imm : Int) (s : ByteArray) (ka kb kc lo hi : Int) (w : World) (hs : formB op = s) (h0 : s.toList.isEmpty = false) (hsp : inst_span.f s = some (lo, hi))
    (hka : keepB (Lib.indexByte s.data.toList 97) a = ka) (hkb : keepB (Lib.indexByte s.data.toList 98) b = kb) (hkc : keepB (Lib.indexByte s.data.toList 99) c = kc)
    (r : Bool) (hr : r = true ↔ (a = ka ∧ b = kb ∧ c = kc) ∧ lo ≤ imm ∧ imm ≤ hi ∧ (0 ≤ a ∧ a ≤ 15) ∧ (0 ≤ b ∧ b ≤ 15) ∧ 0 ≤ c ∧ c ≤ 15) :
    Calls Try.prog 61 #[.agg #[.int .i64 op, .int .i64 a, .int .i64 b, .int .i64 c, .int .i64 imm]] w fun e w' =>
      e = .returned (.bool r) ∧ Below w.heap.size w w' := by
  have hf : ¬ ((a = ka ∧ b = kb ∧ c = kc) ∧ lo ≤ imm ∧ imm ≤ hi ∧ (0 ≤ a ∧ a ≤ 15) ∧ (0 ≤ b ∧ b ≤ 15) ∧ 0 ≤ c ∧ c ≤ 15) → r = false := fun h => by
    cases r with
    | false => rfl
    | true => exact absurd (hr.1 rfl) h
  by_cases e1 : a = ka ∧ b = kb ∧ c = kc
  · have n1 : (!(a == ka) || (!(b == kb) || !(c == kc))) = false := by
      obtain ⟨x, y, z⟩ := e1
      rw [beq_iff_eq.mpr x, beq_iff_eq.mpr y, beq_iff_eq.mpr z]; rfl
    by_cases e2 : imm < lo
    · rw [hf (fun h => by omega)]
      exact right_low op a b c imm s ka kb kc lo hi w hs h0 hsp hka hkb hkc n1 (decide_eq_true e2)
    · by_cases e3 : hi < imm
      · rw [hf (fun h => by omega)]
        exact right_high op a b c imm s ka kb kc lo hi w hs h0 hsp hka hkb hkc n1 (decide_eq_false e2) (decide_eq_true e3)
      · have hx : r = (inR a && inR b && inR c) := by
          rw [Bool.eq_iff_iff, hr]
          simp only [inR, Bool.and_eq_true, decide_eq_true_eq]
          constructor
          · intro h; exact ⟨⟨h.2.2.2.1, h.2.2.2.2.1⟩, h.2.2.2.2.2⟩
          · intro h; exact ⟨e1, by omega, by omega, h.1.1, h.1.2, h.2⟩
        rw [hx]
        exact right_in op a b c imm s ka kb kc lo hi w hs h0 hsp hka hkb hkc n1 (decide_eq_false e2) (decide_eq_false e3)
  · rw [hf (fun h => e1 h.1)]
    refine right_unlike op a b c imm s ka kb kc lo hi w hs h0 hsp hka hkb hkc ?_
    cases h1 : (a == ka) with
    | false => rfl
    | true =>
      cases h2 : (b == kb) with
      | false => rfl
      | true =>
        cases h3 : (c == kc) with
        | false => rfl
        | true => exact absurd ⟨beq_iff_eq.mp h1, beq_iff_eq.mp h2, beq_iff_eq.mp h3⟩ e1

theorem right_any (op a b c imm : Int) (w : World) :
    Calls Try.prog 61 #[.agg #[.int .i64 op, .int .i64 a, .int .i64 b, .int .i64 c, .int .i64 imm]] w fun e w' =>
      e = .returned (.bool (rightB op a b c imm)) ∧ Below w.heap.size w w' := by
  have fin : ∀ (P : Prop) [Decidable P], (decide P = true ↔ P) := fun P _ => decide_eq_true_iff
  unfold rightB
  by_cases h0 : op = 0
  · exact right_shape op a b c imm ⟨#[117]⟩ 0 0 0 0 65535 w (by unfold formB; rw [if_pos h0]) (by decide +kernel) (by kernel_rfl) (by kernel_rfl) (by kernel_rfl) (by kernel_rfl) _ (by rw [fin]; unfold rightP; omega)
  by_cases h1 : op = 1
  · exact right_shape op a b c imm ⟨#[97, 117]⟩ a 0 0 0 65535 w (by unfold formB; rw [if_neg h0, if_pos h1]) (by decide +kernel) (by kernel_rfl) (by kernel_rfl) (by kernel_rfl) (by kernel_rfl) _ (by rw [fin]; unfold rightP; omega)
  by_cases h2 : op = 2
  · exact right_shape op a b c imm ⟨#[97, 117]⟩ a 0 0 0 65535 w (by unfold formB; rw [if_neg h0, if_neg h1, if_pos h2]) (by decide +kernel) (by kernel_rfl) (by kernel_rfl) (by kernel_rfl) (by kernel_rfl) _ (by rw [fin]; unfold rightP; omega)
  by_cases h3 : 3 ≤ op ∧ op ≤ 10
  · exact right_shape op a b c imm ⟨#[97, 98, 99]⟩ a b c 0 0 w (by unfold formB; rw [if_neg h0, if_neg h1, if_neg h2, if_pos h3]) (by decide +kernel) (by kernel_rfl) (by kernel_rfl) (by kernel_rfl) (by kernel_rfl) _ (by rw [fin]; unfold rightP; omega)
  by_cases h4 : 11 ≤ op ∧ op ≤ 19
  · exact right_shape op a b c imm ⟨#[97, 98, 115]⟩ a b 0 (-32768) 32767 w (by unfold formB; rw [if_neg h0, if_neg h1, if_neg h2, if_neg h3, if_pos h4]) (by decide +kernel) (by kernel_rfl) (by kernel_rfl) (by kernel_rfl) (by kernel_rfl) _ (by rw [fin]; unfold rightP; omega)
  by_cases h5 : op = 20
  · exact right_shape op a b c imm ⟨#[97, 115]⟩ a 0 0 (-32768) 32767 w (by unfold formB; rw [if_neg h0, if_neg h1, if_neg h2, if_neg h3, if_neg h4, if_pos h5]) (by decide +kernel) (by kernel_rfl) (by kernel_rfl) (by kernel_rfl) (by kernel_rfl) _ (by rw [fin]; unfold rightP; omega)
  by_cases h6 : op = 21
  · exact right_shape op a b c imm ⟨#[97]⟩ a 0 0 0 0 w (by unfold formB; rw [if_neg h0, if_neg h1, if_neg h2, if_neg h3, if_neg h4, if_neg h5, if_pos h6]) (by decide +kernel) (by kernel_rfl) (by kernel_rfl) (by kernel_rfl) (by kernel_rfl) _ (by rw [fin]; unfold rightP; omega)
  · have hn : decide (rightP op a b c imm) = false := decide_eq_false (by unfold rightP; omega)
    rw [hn]
    exact right_empty op a b c imm w (by unfold formB; rw [if_neg h0, if_neg h1, if_neg h2, if_neg h3, if_neg h4, if_neg h5, if_neg h6])

theorem rightP_bounds {op a b c imm : Int} (h : rightP op a b c imm) : 0 ≤ op ∧ op ≤ 21 ∧ 0 ≤ a ∧ a ≤ 15 ∧ 0 ≤ b ∧ b ≤ 15 ∧ 0 ≤ c ∧ c ≤ 15 ∧ -32768 ≤ imm ∧ imm ≤ 65535 ∧ (c = 0 ∨ imm = 0) := by
  unfold rightP at h; omega

set_option maxHeartbeats 400000 in
theorem word_right (op a b c imm : Int) (w : World) (h : rightP op a b c imm) :
    Calls Try.prog 76 #[.agg #[.int .i64 op, .int .i64 a, .int .i64 b, .int .i64 c, .int .i64 imm]] w fun e w' =>
      e = .returned (.tuple #[.int .u32 (16777216 * op + 1048576 * a + 65536 * b + c + imm % 65536), .int .i64 0]) ∧ Below w.heap.size w w' := by
  obtain ⟨b1, b2, b3, b4, b5, b6, b7, b8, b9, b10, b11⟩ := rightP_bounds h
  have hr : rightB op a b c imm = true := decide_eq_true h
  have HR := Lib.hid hr
  have H11 := Lib.hid b11
  clear hr b11
  go_enter Try.func76, Try.ntmps76
  go_wp2_with fail
  refine (right_any _ _ _ _ _ _).mono ?_
  rw [HR.out]
  rintro e w1 ⟨rfl, hb⟩
  have hc0 := hb.cell (p := ⟨w.heap.size, 0, none⟩) (by simp)
  have hc1 := hb.cell (p := ⟨w.heap.size, 1, none⟩) (by simp)
  have hc2 := hb.cell (p := ⟨w.heap.size, 2, none⟩) (by simp)
  have hc3 := hb.cell (p := ⟨w.heap.size, 3, none⟩) (by simp)
  have hc4 := hb.cell (p := ⟨w.heap.size, 4, none⟩) (by simp)
  go_wp2_with fail
  go_ret2
  exact ⟨by rw [word_bits op a b c imm b1 b2 b3 b4 b5 b6 b7 b8 H11.out]; rfl, below_call (below_alloc (Below.refl _ _) _) hb⟩

set_option maxHeartbeats 400000 in
theorem word_wrong (op a b c imm : Int) (w : World) (h : ¬ rightP op a b c imm) :
    Calls Try.prog 76 #[.agg #[.int .i64 op, .int .i64 a, .int .i64 b, .int .i64 c, .int .i64 imm]] w fun e w' =>
      e = .returned (.tuple #[.int .u32 0, .int .i64 1]) ∧ Below w.heap.size w w' := by
  have hr : rightB op a b c imm = false := decide_eq_false h
  have HR := Lib.hid hr
  clear hr
  go_enter Try.func76, Try.ntmps76
  go_wp2_with fail
  refine (right_any _ _ _ _ _ _).mono ?_
  rw [HR.out]
  rintro e w1 ⟨rfl, hb⟩
  go_wp2_with fail
  go_ret2
  exact ⟨rfl, below_call (below_alloc (Below.refl _ _) _) hb⟩

theorem bcell {W w1 : World} (hb : Below W.heap.size W w1) : (∀ b o, b < W.heap.size → w1.cell? ⟨b, o, none⟩ = W.cell? ⟨b, o, none⟩) ∧ (∀ b o, b < W.heap.size → w1.frozen? ⟨b, o, none⟩ = W.frozen? ⟨b, o, none⟩) :=
  ⟨fun b o h => hb.cell (p := ⟨b, o, none⟩) h, fun b o h => hb.frozen (p := ⟨b, o, none⟩) h⟩
theorem sfx_s (s : ByteArray) (r : Bool) (h : strings_HasSuffix.f s ⟨#[115]⟩ = some r) (w : World) : Calls Try.prog 60 #[.string s, .string ⟨#[115]⟩] w fun e w' => e = .returned (.bool r) ∧ Drawn0 w w' := strings_HasSuffix.calls _ _ _ _ h
/-- the fields of a word -/
def opV (v : Int) : Int := v / 16777216
def aV (v : Int) : Int := v / 1048576 % 16
def bV (v : Int) : Int := v / 65536 % 16
def sx (n : Int) : Int := if n < 32768 then n else n - 65536
def cV (v : Int) : Int := if 3 ≤ opV v ∧ opV v ≤ 10 then v % 65536 else 0
def immV (v : Int) : Int := if 3 ≤ opV v ∧ opV v ≤ 10 then 0 else if 11 ≤ opV v ∧ opV v ≤ 20 then sx (v % 65536) else v % 65536
def ofB (v : Int) : Bool := rightB (opV v) (aV v) (bV v) (cV v) (immV v)
/-- what Of answers -/
def ofR (v : Int) : Value := if ofB v then .tuple #[.agg #[.int .i64 (opV v), .int .i64 (aV v), .int .i64 (bV v), .int .i64 (cV v), .int .i64 (immV v)], .int .i64 0]
  else .tuple #[.agg #[.int .i64 0, .int .i64 0, .int .i64 0, .int .i64 0, .int .i64 0], .int .i64 2]
theorem i16_sx (v : Int) : IntKind.i16.wrap (v % 65536) = sx (v % 65536) := by
  have h : ∀ n : Int, IntKind.i16.wrap n = (n + 32768) % 65536 - 32768 := fun n => by simp [IntKind.wrap, IntKind.bits, IntKind.signed]; omega
  rw [h]; unfold sx; omega
theorem fld (v : Int) : opV v = v / 16777216 ∧ aV v = v / 1048576 % 16 ∧ bV v = v / 65536 % 16 := ⟨rfl, rfl, rfl⟩

set_option maxHeartbeats 800000 in
theorem of_abc (v : Int) (w : World) (v0 : 0 ≤ v) (v1 : v ≤ 4294967295) (hs : formB (v / 16777216) = ⟨#[97, 98, 99]⟩) (hcv : cV v = v % 65536) (him : immV v = 0) :
    Calls Try.prog 17 #[.int .u32 v] w fun e w' => e = .returned (ofR v) ∧ Below w.heap.size w w' := by
  have HS := Lib.hid hs
  have hr : rightB (v / 16777216) (v / 1048576 % 16) (v / 65536 % 16) (v % 65536) (0) = ofB v := by unfold ofB; rw [hcv, him]; rfl
  have HR := Lib.hid hr
  have hfin : ∀ q, ofB v = q → ofR v = (if q then .tuple #[.agg #[.int .i64 (v / 16777216), .int .i64 (v / 1048576 % 16), .int .i64 (v / 65536 % 16), .int .i64 (v % 65536), .int .i64 (0)], .int .i64 0]
      else .tuple #[.agg #[.int .i64 0, .int .i64 0, .int .i64 0, .int .i64 0, .int .i64 0], .int .i64 2]) := fun q hq => by
    unfold ofR; rw [hq, hcv, him]; rfl
  have HF := Lib.hid hfin
  clear hs hr hfin hcv him
  have m1 := and_u32_15 (v / 1048576) (by omega) (by omega)
  have m2 := and_u32_15 (v / 65536) (by omega) (by omega)
  have m3 := and_u32_16 v (by omega) (by omega)
  go_enter Try.func17, Try.ntmps17
  go_wp2_with fail
  refine (form_any _ _).mono ?_
  rw [HS.out]
  rintro e w1 ⟨rfl, ⟨n1, rfl⟩⟩
  go_wp2_with fail
  refine (right_any _ _ _ _ _ _).mono ?_
  obtain ⟨q, hq⟩ : ∃ q, ofB v = q := ⟨_, rfl⟩
  rw [HR.out, hq]
  have HQ := Lib.hid (HF.out q hq)
  clear hq HF HR
  rintro e w2 ⟨rfl, hb⟩
  obtain ⟨hcc, hcf⟩ := bcell hb
  have hd0 : w2.cell? ⟨w.heap.size, 0, none⟩ = some (.int .i64 0) := by rw [hcc _ _ (by simp; omega)]; go_simp
  have hd1 : w2.cell? ⟨w.heap.size, 1, none⟩ = some (.int .i64 0) := by rw [hcc _ _ (by simp; omega)]; go_simp
  have hd2 : w2.cell? ⟨w.heap.size, 2, none⟩ = some (.int .i64 0) := by rw [hcc _ _ (by simp; omega)]; go_simp
  have hd3 : w2.cell? ⟨w.heap.size, 3, none⟩ = some (.int .i64 0) := by rw [hcc _ _ (by simp; omega)]; go_simp
  have hd4 : w2.cell? ⟨w.heap.size, 4, none⟩ = some (.int .i64 0) := by rw [hcc _ _ (by simp; omega)]; go_simp
  have HB : Below w.heap.size w w2 := below_call (by repeat (first | exact Below.refl _ _ | apply below_alloc | apply pw_below_drewN | apply below_drew | refine Below.setCell ?_ (by simp) _)) hb
  cases q
  · go_wp2_with fail
    exact bodyPost_ret (v := .tuple #[.agg #[.int .i64 0, .int .i64 0, .int .i64 0, .int .i64 0, .int .i64 0], .int .i64 2]) (by simp [results, Try.results17, go_sem, hd0, hd1, hd2, hd3, hd4]) rfl ⟨by rw [HQ.out]; rfl, by repeat (first | (with_reducible exact HB) | refine Below.setCell ?_ (by simp) _)⟩
  · go_wp2_with fail
    exact bodyPost_ret (v := .tuple #[.agg #[.int .i64 (v / 16777216), .int .i64 (v / 1048576 % 16), .int .i64 (v / 65536 % 16), .int .i64 (v % 65536), .int .i64 (0)], .int .i64 0]) (by simp [results, Try.results17, go_sem, hd0, hd1, hd2, hd3, hd4]) rfl ⟨by rw [HQ.out]; rfl, by repeat (first | (with_reducible exact HB) | refine Below.setCell ?_ (by simp) _)⟩

set_option maxHeartbeats 800000 in
theorem of_abs (v : Int) (w : World) (v0 : 0 ≤ v) (v1 : v ≤ 4294967295) (hs : formB (v / 16777216) = ⟨#[97, 98, 115]⟩) (hcv : cV v = 0) (him : immV v = sx (v % 65536)) :
    Calls Try.prog 17 #[.int .u32 v] w fun e w' => e = .returned (ofR v) ∧ Below w.heap.size w w' := by
  have HS := Lib.hid hs
  have hr : rightB (v / 16777216) (v / 1048576 % 16) (v / 65536 % 16) (0) (sx (v % 65536)) = ofB v := by unfold ofB; rw [hcv, him]; rfl
  have HR := Lib.hid hr
  have hfin : ∀ q, ofB v = q → ofR v = (if q then .tuple #[.agg #[.int .i64 (v / 16777216), .int .i64 (v / 1048576 % 16), .int .i64 (v / 65536 % 16), .int .i64 (0), .int .i64 (sx (v % 65536))], .int .i64 0]
      else .tuple #[.agg #[.int .i64 0, .int .i64 0, .int .i64 0, .int .i64 0, .int .i64 0], .int .i64 2]) := fun q hq => by
    unfold ofR; rw [hq, hcv, him]; rfl
  have HF := Lib.hid hfin
  clear hs hr hfin hcv him
  have m1 := and_u32_15 (v / 1048576) (by omega) (by omega)
  have m2 := and_u32_15 (v / 65536) (by omega) (by omega)
  have m3 := and_u32_16 v (by omega) (by omega)
  have m4 := i16_sx v
  have m5 : -32768 ≤ sx (v % 65536) := by unfold sx; omega
  have m6 : sx (v % 65536) ≤ 32767 := by unfold sx; omega
  go_enter Try.func17, Try.ntmps17
  go_wp2_with fail
  refine (form_any _ _).mono ?_
  rw [HS.out]
  rintro e w1 ⟨rfl, ⟨n1, rfl⟩⟩
  go_wp2_with fail
  refine (sfx_s _ true (by kernel_rfl) _).mono ?_
  rintro e w1 ⟨rfl, ⟨n2, rfl⟩⟩
  go_wp2_with fail
  refine (right_any _ _ _ _ _ _).mono ?_
  obtain ⟨q, hq⟩ : ∃ q, ofB v = q := ⟨_, rfl⟩
  rw [HR.out, hq]
  have HQ := Lib.hid (HF.out q hq)
  clear hq HF HR
  rintro e w2 ⟨rfl, hb⟩
  obtain ⟨hcc, hcf⟩ := bcell hb
  have hd0 : w2.cell? ⟨w.heap.size, 0, none⟩ = some (.int .i64 0) := by rw [hcc _ _ (by simp; omega)]; go_simp
  have hd1 : w2.cell? ⟨w.heap.size, 1, none⟩ = some (.int .i64 0) := by rw [hcc _ _ (by simp; omega)]; go_simp
  have hd2 : w2.cell? ⟨w.heap.size, 2, none⟩ = some (.int .i64 0) := by rw [hcc _ _ (by simp; omega)]; go_simp
  have hd3 : w2.cell? ⟨w.heap.size, 3, none⟩ = some (.int .i64 0) := by rw [hcc _ _ (by simp; omega)]; go_simp
  have hd4 : w2.cell? ⟨w.heap.size, 4, none⟩ = some (.int .i64 0) := by rw [hcc _ _ (by simp; omega)]; go_simp
  have HB : Below w.heap.size w w2 := below_call (by repeat (first | exact Below.refl _ _ | apply below_alloc | apply pw_below_drewN | apply below_drew | refine Below.setCell ?_ (by simp) _)) hb
  cases q
  · go_wp2_with fail
    exact bodyPost_ret (v := .tuple #[.agg #[.int .i64 0, .int .i64 0, .int .i64 0, .int .i64 0, .int .i64 0], .int .i64 2]) (by simp [results, Try.results17, go_sem, hd0, hd1, hd2, hd3, hd4]) rfl ⟨by rw [HQ.out]; rfl, by repeat (first | (with_reducible exact HB) | refine Below.setCell ?_ (by simp) _)⟩
  · go_wp2_with fail
    exact bodyPost_ret (v := .tuple #[.agg #[.int .i64 (v / 16777216), .int .i64 (v / 1048576 % 16), .int .i64 (v / 65536 % 16), .int .i64 (0), .int .i64 (sx (v % 65536))], .int .i64 0]) (by simp [results, Try.results17, go_sem, hd0, hd1, hd2, hd3, hd4]) rfl ⟨by rw [HQ.out]; rfl, by repeat (first | (with_reducible exact HB) | refine Below.setCell ?_ (by simp) _)⟩

set_option maxHeartbeats 800000 in
theorem of_as (v : Int) (w : World) (v0 : 0 ≤ v) (v1 : v ≤ 4294967295) (hs : formB (v / 16777216) = ⟨#[97, 115]⟩) (hcv : cV v = 0) (him : immV v = sx (v % 65536)) :
    Calls Try.prog 17 #[.int .u32 v] w fun e w' => e = .returned (ofR v) ∧ Below w.heap.size w w' := by
  have HS := Lib.hid hs
  have hr : rightB (v / 16777216) (v / 1048576 % 16) (v / 65536 % 16) (0) (sx (v % 65536)) = ofB v := by unfold ofB; rw [hcv, him]; rfl
  have HR := Lib.hid hr
  have hfin : ∀ q, ofB v = q → ofR v = (if q then .tuple #[.agg #[.int .i64 (v / 16777216), .int .i64 (v / 1048576 % 16), .int .i64 (v / 65536 % 16), .int .i64 (0), .int .i64 (sx (v % 65536))], .int .i64 0]
      else .tuple #[.agg #[.int .i64 0, .int .i64 0, .int .i64 0, .int .i64 0, .int .i64 0], .int .i64 2]) := fun q hq => by
    unfold ofR; rw [hq, hcv, him]; rfl
  have HF := Lib.hid hfin
  clear hs hr hfin hcv him
  have m1 := and_u32_15 (v / 1048576) (by omega) (by omega)
  have m2 := and_u32_15 (v / 65536) (by omega) (by omega)
  have m3 := and_u32_16 v (by omega) (by omega)
  have m4 := i16_sx v
  have m5 : -32768 ≤ sx (v % 65536) := by unfold sx; omega
  have m6 : sx (v % 65536) ≤ 32767 := by unfold sx; omega
  go_enter Try.func17, Try.ntmps17
  go_wp2_with fail
  refine (form_any _ _).mono ?_
  rw [HS.out]
  rintro e w1 ⟨rfl, ⟨n1, rfl⟩⟩
  go_wp2_with fail
  refine (sfx_s _ true (by kernel_rfl) _).mono ?_
  rintro e w1 ⟨rfl, ⟨n2, rfl⟩⟩
  go_wp2_with fail
  refine (right_any _ _ _ _ _ _).mono ?_
  obtain ⟨q, hq⟩ : ∃ q, ofB v = q := ⟨_, rfl⟩
  rw [HR.out, hq]
  have HQ := Lib.hid (HF.out q hq)
  clear hq HF HR
  rintro e w2 ⟨rfl, hb⟩
  obtain ⟨hcc, hcf⟩ := bcell hb
  have hd0 : w2.cell? ⟨w.heap.size, 0, none⟩ = some (.int .i64 0) := by rw [hcc _ _ (by simp; omega)]; go_simp
  have hd1 : w2.cell? ⟨w.heap.size, 1, none⟩ = some (.int .i64 0) := by rw [hcc _ _ (by simp; omega)]; go_simp
  have hd2 : w2.cell? ⟨w.heap.size, 2, none⟩ = some (.int .i64 0) := by rw [hcc _ _ (by simp; omega)]; go_simp
  have hd3 : w2.cell? ⟨w.heap.size, 3, none⟩ = some (.int .i64 0) := by rw [hcc _ _ (by simp; omega)]; go_simp
  have hd4 : w2.cell? ⟨w.heap.size, 4, none⟩ = some (.int .i64 0) := by rw [hcc _ _ (by simp; omega)]; go_simp
  have HB : Below w.heap.size w w2 := below_call (by repeat (first | exact Below.refl _ _ | apply below_alloc | apply pw_below_drewN | apply below_drew | refine Below.setCell ?_ (by simp) _)) hb
  cases q
  · go_wp2_with fail
    exact bodyPost_ret (v := .tuple #[.agg #[.int .i64 0, .int .i64 0, .int .i64 0, .int .i64 0, .int .i64 0], .int .i64 2]) (by simp [results, Try.results17, go_sem, hd0, hd1, hd2, hd3, hd4]) rfl ⟨by rw [HQ.out]; rfl, by repeat (first | (with_reducible exact HB) | refine Below.setCell ?_ (by simp) _)⟩
  · go_wp2_with fail
    exact bodyPost_ret (v := .tuple #[.agg #[.int .i64 (v / 16777216), .int .i64 (v / 1048576 % 16), .int .i64 (v / 65536 % 16), .int .i64 (0), .int .i64 (sx (v % 65536))], .int .i64 0]) (by simp [results, Try.results17, go_sem, hd0, hd1, hd2, hd3, hd4]) rfl ⟨by rw [HQ.out]; rfl, by repeat (first | (with_reducible exact HB) | refine Below.setCell ?_ (by simp) _)⟩

set_option maxHeartbeats 800000 in
theorem of_u (v : Int) (w : World) (v0 : 0 ≤ v) (v1 : v ≤ 4294967295) (hs : formB (v / 16777216) = ⟨#[117]⟩) (hcv : cV v = 0) (him : immV v = v % 65536) :
    Calls Try.prog 17 #[.int .u32 v] w fun e w' => e = .returned (ofR v) ∧ Below w.heap.size w w' := by
  have HS := Lib.hid hs
  have hr : rightB (v / 16777216) (v / 1048576 % 16) (v / 65536 % 16) (0) (v % 65536) = ofB v := by unfold ofB; rw [hcv, him]; rfl
  have HR := Lib.hid hr
  have hfin : ∀ q, ofB v = q → ofR v = (if q then .tuple #[.agg #[.int .i64 (v / 16777216), .int .i64 (v / 1048576 % 16), .int .i64 (v / 65536 % 16), .int .i64 (0), .int .i64 (v % 65536)], .int .i64 0]
      else .tuple #[.agg #[.int .i64 0, .int .i64 0, .int .i64 0, .int .i64 0, .int .i64 0], .int .i64 2]) := fun q hq => by
    unfold ofR; rw [hq, hcv, him]; rfl
  have HF := Lib.hid hfin
  clear hs hr hfin hcv him
  have m1 := and_u32_15 (v / 1048576) (by omega) (by omega)
  have m2 := and_u32_15 (v / 65536) (by omega) (by omega)
  have m3 := and_u32_16 v (by omega) (by omega)
  go_enter Try.func17, Try.ntmps17
  go_wp2_with fail
  refine (form_any _ _).mono ?_
  rw [HS.out]
  rintro e w1 ⟨rfl, ⟨n1, rfl⟩⟩
  go_wp2_with fail
  refine (sfx_s _ false (by kernel_rfl) _).mono ?_
  rintro e w1 ⟨rfl, ⟨n2, rfl⟩⟩
  go_wp2_with fail
  refine (right_any _ _ _ _ _ _).mono ?_
  obtain ⟨q, hq⟩ : ∃ q, ofB v = q := ⟨_, rfl⟩
  rw [HR.out, hq]
  have HQ := Lib.hid (HF.out q hq)
  clear hq HF HR
  rintro e w2 ⟨rfl, hb⟩
  obtain ⟨hcc, hcf⟩ := bcell hb
  have hd0 : w2.cell? ⟨w.heap.size, 0, none⟩ = some (.int .i64 0) := by rw [hcc _ _ (by simp; omega)]; go_simp
  have hd1 : w2.cell? ⟨w.heap.size, 1, none⟩ = some (.int .i64 0) := by rw [hcc _ _ (by simp; omega)]; go_simp
  have hd2 : w2.cell? ⟨w.heap.size, 2, none⟩ = some (.int .i64 0) := by rw [hcc _ _ (by simp; omega)]; go_simp
  have hd3 : w2.cell? ⟨w.heap.size, 3, none⟩ = some (.int .i64 0) := by rw [hcc _ _ (by simp; omega)]; go_simp
  have hd4 : w2.cell? ⟨w.heap.size, 4, none⟩ = some (.int .i64 0) := by rw [hcc _ _ (by simp; omega)]; go_simp
  have HB : Below w.heap.size w w2 := below_call (by repeat (first | exact Below.refl _ _ | apply below_alloc | apply pw_below_drewN | apply below_drew | refine Below.setCell ?_ (by simp) _)) hb
  cases q
  · go_wp2_with fail
    exact bodyPost_ret (v := .tuple #[.agg #[.int .i64 0, .int .i64 0, .int .i64 0, .int .i64 0, .int .i64 0], .int .i64 2]) (by simp [results, Try.results17, go_sem, hd0, hd1, hd2, hd3, hd4]) rfl ⟨by rw [HQ.out]; rfl, by repeat (first | (with_reducible exact HB) | refine Below.setCell ?_ (by simp) _)⟩
  · go_wp2_with fail
    exact bodyPost_ret (v := .tuple #[.agg #[.int .i64 (v / 16777216), .int .i64 (v / 1048576 % 16), .int .i64 (v / 65536 % 16), .int .i64 (0), .int .i64 (v % 65536)], .int .i64 0]) (by simp [results, Try.results17, go_sem, hd0, hd1, hd2, hd3, hd4]) rfl ⟨by rw [HQ.out]; rfl, by repeat (first | (with_reducible exact HB) | refine Below.setCell ?_ (by simp) _)⟩

set_option maxHeartbeats 800000 in
theorem of_au (v : Int) (w : World) (v0 : 0 ≤ v) (v1 : v ≤ 4294967295) (hs : formB (v / 16777216) = ⟨#[97, 117]⟩) (hcv : cV v = 0) (him : immV v = v % 65536) :
    Calls Try.prog 17 #[.int .u32 v] w fun e w' => e = .returned (ofR v) ∧ Below w.heap.size w w' := by
  have HS := Lib.hid hs
  have hr : rightB (v / 16777216) (v / 1048576 % 16) (v / 65536 % 16) (0) (v % 65536) = ofB v := by unfold ofB; rw [hcv, him]; rfl
  have HR := Lib.hid hr
  have hfin : ∀ q, ofB v = q → ofR v = (if q then .tuple #[.agg #[.int .i64 (v / 16777216), .int .i64 (v / 1048576 % 16), .int .i64 (v / 65536 % 16), .int .i64 (0), .int .i64 (v % 65536)], .int .i64 0]
      else .tuple #[.agg #[.int .i64 0, .int .i64 0, .int .i64 0, .int .i64 0, .int .i64 0], .int .i64 2]) := fun q hq => by
    unfold ofR; rw [hq, hcv, him]; rfl
  have HF := Lib.hid hfin
  clear hs hr hfin hcv him
  have m1 := and_u32_15 (v / 1048576) (by omega) (by omega)
  have m2 := and_u32_15 (v / 65536) (by omega) (by omega)
  have m3 := and_u32_16 v (by omega) (by omega)
  go_enter Try.func17, Try.ntmps17
  go_wp2_with fail
  refine (form_any _ _).mono ?_
  rw [HS.out]
  rintro e w1 ⟨rfl, ⟨n1, rfl⟩⟩
  go_wp2_with fail
  refine (sfx_s _ false (by kernel_rfl) _).mono ?_
  rintro e w1 ⟨rfl, ⟨n2, rfl⟩⟩
  go_wp2_with fail
  refine (right_any _ _ _ _ _ _).mono ?_
  obtain ⟨q, hq⟩ : ∃ q, ofB v = q := ⟨_, rfl⟩
  rw [HR.out, hq]
  have HQ := Lib.hid (HF.out q hq)
  clear hq HF HR
  rintro e w2 ⟨rfl, hb⟩
  obtain ⟨hcc, hcf⟩ := bcell hb
  have hd0 : w2.cell? ⟨w.heap.size, 0, none⟩ = some (.int .i64 0) := by rw [hcc _ _ (by simp; omega)]; go_simp
  have hd1 : w2.cell? ⟨w.heap.size, 1, none⟩ = some (.int .i64 0) := by rw [hcc _ _ (by simp; omega)]; go_simp
  have hd2 : w2.cell? ⟨w.heap.size, 2, none⟩ = some (.int .i64 0) := by rw [hcc _ _ (by simp; omega)]; go_simp
  have hd3 : w2.cell? ⟨w.heap.size, 3, none⟩ = some (.int .i64 0) := by rw [hcc _ _ (by simp; omega)]; go_simp
  have hd4 : w2.cell? ⟨w.heap.size, 4, none⟩ = some (.int .i64 0) := by rw [hcc _ _ (by simp; omega)]; go_simp
  have HB : Below w.heap.size w w2 := below_call (by repeat (first | exact Below.refl _ _ | apply below_alloc | apply pw_below_drewN | apply below_drew | refine Below.setCell ?_ (by simp) _)) hb
  cases q
  · go_wp2_with fail
    exact bodyPost_ret (v := .tuple #[.agg #[.int .i64 0, .int .i64 0, .int .i64 0, .int .i64 0, .int .i64 0], .int .i64 2]) (by simp [results, Try.results17, go_sem, hd0, hd1, hd2, hd3, hd4]) rfl ⟨by rw [HQ.out]; rfl, by repeat (first | (with_reducible exact HB) | refine Below.setCell ?_ (by simp) _)⟩
  · go_wp2_with fail
    exact bodyPost_ret (v := .tuple #[.agg #[.int .i64 (v / 16777216), .int .i64 (v / 1048576 % 16), .int .i64 (v / 65536 % 16), .int .i64 (0), .int .i64 (v % 65536)], .int .i64 0]) (by simp [results, Try.results17, go_sem, hd0, hd1, hd2, hd3, hd4]) rfl ⟨by rw [HQ.out]; rfl, by repeat (first | (with_reducible exact HB) | refine Below.setCell ?_ (by simp) _)⟩

set_option maxHeartbeats 800000 in
theorem of_a (v : Int) (w : World) (v0 : 0 ≤ v) (v1 : v ≤ 4294967295) (hs : formB (v / 16777216) = ⟨#[97]⟩) (hcv : cV v = 0) (him : immV v = v % 65536) :
    Calls Try.prog 17 #[.int .u32 v] w fun e w' => e = .returned (ofR v) ∧ Below w.heap.size w w' := by
  have HS := Lib.hid hs
  have hr : rightB (v / 16777216) (v / 1048576 % 16) (v / 65536 % 16) (0) (v % 65536) = ofB v := by unfold ofB; rw [hcv, him]; rfl
  have HR := Lib.hid hr
  have hfin : ∀ q, ofB v = q → ofR v = (if q then .tuple #[.agg #[.int .i64 (v / 16777216), .int .i64 (v / 1048576 % 16), .int .i64 (v / 65536 % 16), .int .i64 (0), .int .i64 (v % 65536)], .int .i64 0]
      else .tuple #[.agg #[.int .i64 0, .int .i64 0, .int .i64 0, .int .i64 0, .int .i64 0], .int .i64 2]) := fun q hq => by
    unfold ofR; rw [hq, hcv, him]; rfl
  have HF := Lib.hid hfin
  clear hs hr hfin hcv him
  have m1 := and_u32_15 (v / 1048576) (by omega) (by omega)
  have m2 := and_u32_15 (v / 65536) (by omega) (by omega)
  have m3 := and_u32_16 v (by omega) (by omega)
  go_enter Try.func17, Try.ntmps17
  go_wp2_with fail
  refine (form_any _ _).mono ?_
  rw [HS.out]
  rintro e w1 ⟨rfl, ⟨n1, rfl⟩⟩
  go_wp2_with fail
  refine (sfx_s _ false (by kernel_rfl) _).mono ?_
  rintro e w1 ⟨rfl, ⟨n2, rfl⟩⟩
  go_wp2_with fail
  refine (right_any _ _ _ _ _ _).mono ?_
  obtain ⟨q, hq⟩ : ∃ q, ofB v = q := ⟨_, rfl⟩
  rw [HR.out, hq]
  have HQ := Lib.hid (HF.out q hq)
  clear hq HF HR
  rintro e w2 ⟨rfl, hb⟩
  obtain ⟨hcc, hcf⟩ := bcell hb
  have hd0 : w2.cell? ⟨w.heap.size, 0, none⟩ = some (.int .i64 0) := by rw [hcc _ _ (by simp; omega)]; go_simp
  have hd1 : w2.cell? ⟨w.heap.size, 1, none⟩ = some (.int .i64 0) := by rw [hcc _ _ (by simp; omega)]; go_simp
  have hd2 : w2.cell? ⟨w.heap.size, 2, none⟩ = some (.int .i64 0) := by rw [hcc _ _ (by simp; omega)]; go_simp
  have hd3 : w2.cell? ⟨w.heap.size, 3, none⟩ = some (.int .i64 0) := by rw [hcc _ _ (by simp; omega)]; go_simp
  have hd4 : w2.cell? ⟨w.heap.size, 4, none⟩ = some (.int .i64 0) := by rw [hcc _ _ (by simp; omega)]; go_simp
  have HB : Below w.heap.size w w2 := below_call (by repeat (first | exact Below.refl _ _ | apply below_alloc | apply pw_below_drewN | apply below_drew | refine Below.setCell ?_ (by simp) _)) hb
  cases q
  · go_wp2_with fail
    exact bodyPost_ret (v := .tuple #[.agg #[.int .i64 0, .int .i64 0, .int .i64 0, .int .i64 0, .int .i64 0], .int .i64 2]) (by simp [results, Try.results17, go_sem, hd0, hd1, hd2, hd3, hd4]) rfl ⟨by rw [HQ.out]; rfl, by repeat (first | (with_reducible exact HB) | refine Below.setCell ?_ (by simp) _)⟩
  · go_wp2_with fail
    exact bodyPost_ret (v := .tuple #[.agg #[.int .i64 (v / 16777216), .int .i64 (v / 1048576 % 16), .int .i64 (v / 65536 % 16), .int .i64 (0), .int .i64 (v % 65536)], .int .i64 0]) (by simp [results, Try.results17, go_sem, hd0, hd1, hd2, hd3, hd4]) rfl ⟨by rw [HQ.out]; rfl, by repeat (first | (with_reducible exact HB) | refine Below.setCell ?_ (by simp) _)⟩

set_option maxHeartbeats 800000 in
theorem of_none (v : Int) (w : World) (v0 : 0 ≤ v) (v1 : v ≤ 4294967295) (hs : formB (v / 16777216) = ⟨#[]⟩) (hcv : cV v = 0) (him : immV v = v % 65536) :
    Calls Try.prog 17 #[.int .u32 v] w fun e w' => e = .returned (ofR v) ∧ Below w.heap.size w w' := by
  have HS := Lib.hid hs
  have hr : rightB (v / 16777216) (v / 1048576 % 16) (v / 65536 % 16) (0) (v % 65536) = ofB v := by unfold ofB; rw [hcv, him]; rfl
  have HR := Lib.hid hr
  have hfin : ∀ q, ofB v = q → ofR v = (if q then .tuple #[.agg #[.int .i64 (v / 16777216), .int .i64 (v / 1048576 % 16), .int .i64 (v / 65536 % 16), .int .i64 (0), .int .i64 (v % 65536)], .int .i64 0]
      else .tuple #[.agg #[.int .i64 0, .int .i64 0, .int .i64 0, .int .i64 0, .int .i64 0], .int .i64 2]) := fun q hq => by
    unfold ofR; rw [hq, hcv, him]; rfl
  have HF := Lib.hid hfin
  clear hs hr hfin hcv him
  have m1 := and_u32_15 (v / 1048576) (by omega) (by omega)
  have m2 := and_u32_15 (v / 65536) (by omega) (by omega)
  have m3 := and_u32_16 v (by omega) (by omega)
  go_enter Try.func17, Try.ntmps17
  go_wp2_with fail
  refine (form_any _ _).mono ?_
  rw [HS.out]
  rintro e w1 ⟨rfl, ⟨n1, rfl⟩⟩
  go_wp2_with fail
  refine (sfx_s _ false (by kernel_rfl) _).mono ?_
  rintro e w1 ⟨rfl, ⟨n2, rfl⟩⟩
  go_wp2_with fail
  refine (right_any _ _ _ _ _ _).mono ?_
  obtain ⟨q, hq⟩ : ∃ q, ofB v = q := ⟨_, rfl⟩
  rw [HR.out, hq]
  have HQ := Lib.hid (HF.out q hq)
  clear hq HF HR
  rintro e w2 ⟨rfl, hb⟩
  obtain ⟨hcc, hcf⟩ := bcell hb
  have hd0 : w2.cell? ⟨w.heap.size, 0, none⟩ = some (.int .i64 0) := by rw [hcc _ _ (by simp; omega)]; go_simp
  have hd1 : w2.cell? ⟨w.heap.size, 1, none⟩ = some (.int .i64 0) := by rw [hcc _ _ (by simp; omega)]; go_simp
  have hd2 : w2.cell? ⟨w.heap.size, 2, none⟩ = some (.int .i64 0) := by rw [hcc _ _ (by simp; omega)]; go_simp
  have hd3 : w2.cell? ⟨w.heap.size, 3, none⟩ = some (.int .i64 0) := by rw [hcc _ _ (by simp; omega)]; go_simp
  have hd4 : w2.cell? ⟨w.heap.size, 4, none⟩ = some (.int .i64 0) := by rw [hcc _ _ (by simp; omega)]; go_simp
  have HB : Below w.heap.size w w2 := below_call (by repeat (first | exact Below.refl _ _ | apply below_alloc | apply pw_below_drewN | apply below_drew | refine Below.setCell ?_ (by simp) _)) hb
  cases q
  · go_wp2_with fail
    exact bodyPost_ret (v := .tuple #[.agg #[.int .i64 0, .int .i64 0, .int .i64 0, .int .i64 0, .int .i64 0], .int .i64 2]) (by simp [results, Try.results17, go_sem, hd0, hd1, hd2, hd3, hd4]) rfl ⟨by rw [HQ.out]; rfl, by repeat (first | (with_reducible exact HB) | refine Below.setCell ?_ (by simp) _)⟩
  · go_wp2_with fail
    exact bodyPost_ret (v := .tuple #[.agg #[.int .i64 (v / 16777216), .int .i64 (v / 1048576 % 16), .int .i64 (v / 65536 % 16), .int .i64 (0), .int .i64 (v % 65536)], .int .i64 0]) (by simp [results, Try.results17, go_sem, hd0, hd1, hd2, hd3, hd4]) rfl ⟨by rw [HQ.out]; rfl, by repeat (first | (with_reducible exact HB) | refine Below.setCell ?_ (by simp) _)⟩

theorem of_any (v : Int) (w : World) (v0 : 0 ≤ v) (v1 : v ≤ 4294967295) :
    Calls Try.prog 17 #[.int .u32 v] w fun e w' => e = .returned (ofR v) ∧ Below w.heap.size w w' := by
  by_cases h3 : 3 ≤ opV v ∧ opV v ≤ 10
  · exact of_abc v w v0 v1 (by unfold opV at h3; unfold formB; rw [if_neg (by omega), if_neg (by omega), if_neg (by omega), if_pos h3]) (by unfold cV; rw [if_pos h3]) (by unfold immV; rw [if_pos h3])
  have hcv : cV v = 0 := by unfold cV; rw [if_neg h3]
  by_cases h4 : 11 ≤ opV v ∧ opV v ≤ 19
  · exact of_abs v w v0 v1 (by unfold opV at h3 h4; unfold formB; rw [if_neg (by omega), if_neg (by omega), if_neg (by omega), if_neg h3, if_pos h4]) hcv (by unfold immV; rw [if_neg h3, if_pos (by omega)])
  by_cases h5 : opV v = 20
  · exact of_as v w v0 v1 (by unfold opV at h3 h4 h5; unfold formB; rw [if_neg (by omega), if_neg (by omega), if_neg (by omega), if_neg h3, if_neg h4, if_pos h5]) hcv (by unfold immV; rw [if_neg h3, if_pos (by omega)])
  have him : immV v = v % 65536 := by unfold immV; rw [if_neg h3, if_neg (by omega)]
  by_cases h0 : opV v = 0
  · exact of_u v w v0 v1 (by unfold opV at h0; unfold formB; rw [if_pos h0]) hcv him
  by_cases h1 : opV v = 1
  · exact of_au v w v0 v1 (by unfold opV at h0 h1; unfold formB; rw [if_neg h0, if_pos h1]) hcv him
  by_cases h2 : opV v = 2
  · exact of_au v w v0 v1 (by unfold opV at h0 h1 h2; unfold formB; rw [if_neg h0, if_neg h1, if_pos h2]) hcv him
  by_cases h6 : opV v = 21
  · exact of_a v w v0 v1 (by unfold opV at h0 h1 h2 h3 h4 h5 h6; unfold formB; rw [if_neg h0, if_neg h1, if_neg h2, if_neg h3, if_neg h4, if_neg h5, if_pos h6]) hcv him
  · exact of_none v w v0 v1 (by unfold opV at h0 h1 h2 h3 h4 h5 h6; unfold formB; rw [if_neg h0, if_neg h1, if_neg h2, if_neg h3, if_neg h4, if_neg h5, if_neg h6]) hcv him
end Go.Proofs.Ythnbpbmbpggadaa.Mine
