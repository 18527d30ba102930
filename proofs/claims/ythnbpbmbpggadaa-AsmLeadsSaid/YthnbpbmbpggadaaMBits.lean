/- Bits of words, in plain numbers. -/
import Derived.Laws.BitsLemmas
import Derived.Laws.BitsAllLaws
namespace Go.Proofs.Ythnbpbmbpggadaa.Mine
theorem wraps_i64 (n : Int) (h₀ : 0 ≤ n) (h₁ : n < 2 ^ 63) : IntKind.i64.wrap n = n := by rw [IntKind.wrap_i64]; omega
theorem or_i64 (i : Nat) (x y : Int) (hx₀ : 0 ≤ x) (hx : x % 2 ^ i = 0) (hx₁ : x < 2 ^ 63) (hy₀ : 0 ≤ y) (hy : y < 2 ^ i) (hy₁ : y < 2 ^ 63) : bits .or .i64 x y = x + y :=
  bits_join .i64 63 (by decide) wraps_i64 i x y hx₀ hx hx₁ hy₀ hy hy₁
theorem and_i64_16 (x : Int) : bits .and .i64 x 65535 = x % 65536 := by
  have e : (BitVec.ofInt 64 x &&& BitVec.ofInt 64 65535).toNat = (x % 65536).toNat := by
    rw [BitVec.toNat_and, BitVec.toNat_ofInt]
    have h2 : (BitVec.ofInt 64 65535).toNat = 2 ^ 16 - 1 := by decide
    rw [h2, Nat.and_two_pow_sub_one_eq_mod]
    omega
  unfold bits
  simp only [IntKind.bits]
  show IntKind.i64.wrap ((BitVec.ofInt 64 x &&& BitVec.ofInt 64 65535).toNat : Int) = _
  rw [e, IntKind.wrap_i64]
  omega
theorem word_bits (op a b c imm : Int) (b1 : 0 ≤ op) (b2 : op ≤ 21) (b3 : 0 ≤ a) (b4 : a ≤ 15) (b5 : 0 ≤ b) (b6 : b ≤ 15) (b7 : 0 ≤ c) (b8 : c ≤ 15) (b11 : c = 0 ∨ imm = 0) :
    bits .or .i64 (bits .or .i64 (bits .or .i64 (bits .or .i64 (op * 16777216) (a * 1048576)) (b * 65536)) c) (bits .and .i64 imm 65535) % 4294967296 = 16777216 * op + 1048576 * a + 65536 * b + c + imm % 65536 := by
  rw [and_i64_16, or_i64 24 (op * 16777216) (a * 1048576) (by omega) (by omega) (by omega) (by omega) (by omega) (by omega),
    or_i64 20 (op * 16777216 + a * 1048576) (b * 65536) (by omega) (by omega) (by omega) (by omega) (by omega) (by omega),
    or_i64 16 _ c (by omega) (by omega) (by omega) (by omega) (by omega) (by omega)]
  rcases b11 with rfl | rfl
  · rw [or_i64 16 _ (imm % 65536) (by omega) (by omega) (by omega) (by omega) (by omega) (by omega)]
    omega
  · rw [or_i64 0 _ (0 % 65536) (by omega) (by omega) (by omega) (by omega) (by omega) (by omega)]
    omega
theorem wraps_u32 (n : Int) (h₀ : 0 ≤ n) (h₁ : n < 2 ^ 32) : IntKind.u32.wrap n = n := by rw [IntKind.wrap_u32]; omega
theorem and_u32_15 (x : Int) (h₀ : 0 ≤ x) (h₁ : x < 4294967296) : bits .and .u32 x 15 = x % 16 := bits_mask .u32 32 (by decide) wraps_u32 4 (by decide) x h₀ h₁
theorem and_u32_16 (x : Int) (h₀ : 0 ≤ x) (h₁ : x < 4294967296) : bits .and .u32 x 65535 = x % 65536 := bits_mask .u32 32 (by decide) wraps_u32 16 (by decide) x h₀ h₁
end Go.Proofs.Ythnbpbmbpggadaa.Mine
