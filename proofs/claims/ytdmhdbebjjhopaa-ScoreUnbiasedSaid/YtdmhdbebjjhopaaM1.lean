/- Plain arithmetic, no program: wraps, masks, the digit of a long division. -/
import Derived.Laws.BitsLemmas
import Derived.RowKit
namespace Go.Proofs.Ytdmhdbebjjhopaa.M
open Go Go.RowKit
set_option linter.unusedVariables false
set_option linter.unusedSimpArgs false

theorem u64 (x : Int) : IntKind.u64.wrap x = x % 18446744073709551616 := by simp [IntKind.wrap, IntKind.bits, IntKind.signed]
theorem u64_id {x : Int} (h0 : 0 ≤ x) (h1 : x < 18446744073709551616) : IntKind.u64.wrap x = x := by rw [u64]; exact Int.emod_eq_of_lt h0 h1
theorem w64_id {x : Int} (h0 : -9223372036854775808 ≤ x) (h1 : x < 9223372036854775808) : wrap64 x = x := by unfold wrap64; omega
theorem u64_pow (n : Int) (h0 : 0 ≤ n) (h1 : n < 2 ^ 64) : IntKind.u64.wrap n = n := u64_id h0 (by simpa using h1)
theorem and32 {x : Int} (h0 : 0 ≤ x) (h1 : x < 18446744073709551616) : Go.bits .and .u64 x 4294967295 = x % 4294967296 :=
  bits_mask .u64 64 (by decide) u64_pow 32 (by decide) x h0 (by simpa using h1)
theorem join {x y : Int} (i : Nat) (hx0 : 0 ≤ x) (hx : x % 2 ^ i = 0) (hx1 : x < 18446744073709551616) (hy0 : 0 ≤ y) (hy : y < 2 ^ i) (hy1 : y < 18446744073709551616) : Go.bits .or .u64 x y = x + y :=
  bits_join .u64 64 (by decide) u64_pow i x y hx0 hx (by simpa using hx1) hy0 hy (by simpa using hy1)
theorem i64_of {x : Int} (h : (Lit.int .i64 x).wf = true) : -9223372036854775808 ≤ x ∧ x ≤ 9223372036854775807 := by
  simp [Lit.wf, IntKind.min, IntKind.max, IntKind.signed, IntKind.bits] at h; omega
theorem i16_of {x : Int} (h : (Lit.int .i16 x).wf = true) : -32768 ≤ x ∧ x ≤ 32767 := by
  simp [Lit.wf, IntKind.min, IntKind.max, IntKind.signed, IntKind.bits] at h; omega
theorem u8_of {x : Int} (h : (Lit.int .u8 x).wf = true) : 0 ≤ x ∧ x ≤ 255 := by
  simp [Lit.wf, IntKind.min, IntKind.max, IntKind.signed, IntKind.bits] at h; omega
theorem u16_of {x : Int} (h : (Lit.int .u16 x).wf = true) : 0 ≤ x ∧ x ≤ 65535 := by
  simp [Lit.wf, IntKind.min, IntKind.max, IntKind.signed, IntKind.bits] at h; omega

/-- A product of two bounded numbers. -/
theorem mul_le {x y a b : Int} (hx : 0 ≤ x) (hy : 0 ≤ y) (ha : x ≤ a) (hb : y ≤ b) : 0 ≤ x * y ∧ x * y ≤ a * b :=
  ⟨Int.mul_nonneg hx hy, Int.mul_le_mul ha hb hy (by omega)⟩

/-- The high word of a product of two words of 64 bits. -/
theorem mul_high (a b : Int) (ha0 : 0 ≤ a) (ha : a < 18446744073709551616) (hb0 : 0 ≤ b) (hb : b < 18446744073709551616) :
    IntKind.u64.wrap ((IntKind.u64.wrap ((IntKind.u64.wrap ((a / 4294967296) * (b / 4294967296))) + ((IntKind.u64.wrap ((IntKind.u64.wrap ((a / 4294967296) * (Go.bits .and .u64 b 4294967295))) + ((IntKind.u64.wrap ((Go.bits .and .u64 a 4294967295) * (Go.bits .and .u64 b 4294967295))) / 4294967296))) / 4294967296))) + ((IntKind.u64.wrap ((Go.bits .and .u64 (IntKind.u64.wrap ((IntKind.u64.wrap ((a / 4294967296) * (Go.bits .and .u64 b 4294967295))) + ((IntKind.u64.wrap ((Go.bits .and .u64 a 4294967295) * (Go.bits .and .u64 b 4294967295))) / 4294967296))) 4294967295) + (IntKind.u64.wrap ((Go.bits .and .u64 a 4294967295) * (b / 4294967296))))) / 4294967296)) = a * b / 18446744073709551616 := by
  rw [and32 ha0 ha, and32 hb0 hb]
  have hA : a = 4294967296 * (a / 4294967296) + a % 4294967296 := by omega
  have hB : b = 4294967296 * (b / 4294967296) + b % 4294967296 := by omega
  have a1 : 0 ≤ a / 4294967296 ∧ a / 4294967296 ≤ 4294967295 := by omega
  have a0 : 0 ≤ a % 4294967296 ∧ a % 4294967296 ≤ 4294967295 := by omega
  have b1 : 0 ≤ b / 4294967296 ∧ b / 4294967296 ≤ 4294967295 := by omega
  have b0 : 0 ≤ b % 4294967296 ∧ b % 4294967296 ≤ 4294967295 := by omega
  generalize a / 4294967296 = A1 at *
  generalize a % 4294967296 = A0 at *
  generalize b / 4294967296 = B1 at *
  generalize b % 4294967296 = B0 at *
  have e : a * b = 18446744073709551616 * (A1 * B1) + 4294967296 * (A1 * B0) + 4294967296 * (A0 * B1) + A0 * B0 := by
    rw [hA, hB]; grind
  have p11 := mul_le a1.1 b1.1 a1.2 b1.2
  have p10 := mul_le a1.1 b0.1 a1.2 b0.2
  have p01 := mul_le a0.1 b1.1 a0.2 b1.2
  have p00 := mul_le a0.1 b0.1 a0.2 b0.2
  rw [e]
  clear e hA hB
  generalize A1 * B1 = P11 at *
  generalize A1 * B0 = P10 at *
  generalize A0 * B1 = P01 at *
  generalize A0 * B0 = P00 at *
  have q00 : IntKind.u64.wrap P00 = P00 := u64_id p00.1 (by omega)
  have q10 : IntKind.u64.wrap P10 = P10 := u64_id p10.1 (by omega)
  have q01 : IntKind.u64.wrap P01 = P01 := u64_id p01.1 (by omega)
  have q11 : IntKind.u64.wrap P11 = P11 := u64_id p11.1 (by omega)
  rw [q00, q10, q01, q11]
  have q1 : IntKind.u64.wrap (P10 + P00 / 4294967296) = P10 + P00 / 4294967296 := u64_id (by omega) (by omega)
  rw [q1, and32 (by omega) (by omega)]
  have q2 : IntKind.u64.wrap ((P10 + P00 / 4294967296) % 4294967296 + P01) = (P10 + P00 / 4294967296) % 4294967296 + P01 := u64_id (by omega) (by omega)
  have q3 : IntKind.u64.wrap (P11 + (P10 + P00 / 4294967296) / 4294967296) = P11 + (P10 + P00 / 4294967296) / 4294967296 := u64_id (by omega) (by omega)
  rw [q2, q3, u64_id (by omega) (by omega)]
  omega

/-! One digit of a long division to the base 2^32: y = y1 2^32 + y0, u < y, v < 2^32, Q the digit. -/
theorem digit_less {u v y y1 y0 q r : Int} (hy : y = 4294967296 * y1 + y0) (hu : u < y) (hv : v < 4294967296) (hq : q * y1 + r = u) (h0 : 0 < y)
    (c : 4294967296 ≤ q ∨ 4294967296 * r + v < q * y0) : (4294967296 * u + v) / y < q := by
  apply Int.ediv_lt_of_lt_mul h0
  rcases c with c | c
  · have : 4294967296 * y ≤ q * y := Int.mul_le_mul_of_nonneg_right c (by omega)
    omega
  · have : q * y = 4294967296 * (q * y1) + q * y0 := by rw [hy]; grind
    omega
theorem digit_most {u v y y1 y0 q r : Int} (hy : y = 4294967296 * y1 + y0) (hq : q * y1 + r = u) (h0 : 0 < y)
    (c : q * y0 ≤ 4294967296 * r + v) : q ≤ (4294967296 * u + v) / y := by
  apply Int.le_ediv_of_mul_le h0
  have : q * y = 4294967296 * (q * y1) + q * y0 := by rw [hy]; grind
  omega
theorem digit_break {u v y y1 y0 q r : Int} (hy : y = 4294967296 * y1 + y0) (h1 : 0 < y1) (hy0 : 0 ≤ y0) (hy0' : y0 < 4294967296) (hu : u < y) (hv : 0 ≤ v) (hq0 : 0 ≤ q) (hq : q * y1 + r = u) (h0 : 0 < y)
    (hr : 4294967296 ≤ r) : q ≤ (4294967296 * u + v) / y := by
  apply digit_most hy hq h0
  have hlt : q < 4294967296 := by
    apply Int.lt_of_mul_lt_mul_right (a := y1) _ (by omega)
    omega
  have := (mul_le hq0 hy0 (show q ≤ 4294967295 by omega) (show y0 ≤ 4294967295 by omega)).2
  omega
theorem digit_first {u v y y1 y0 : Int} (hy : y = 4294967296 * y1 + y0) (h1 : 0 < y1) (hy0 : 0 ≤ y0) (hu0 : 0 ≤ u) (hv0 : 0 ≤ v) (hv : v < 4294967296) : (4294967296 * u + v) / y ≤ u / y1 := by
  have h0 : 0 < y := by omega
  apply Int.le_ediv_of_mul_le h1
  have hQ0 : 0 ≤ (4294967296 * u + v) / y := Int.ediv_nonneg (by omega) (by omega)
  have h := Int.ediv_mul_le (4294967296 * u + v) (b := y) (by omega)
  generalize (4294967296 * u + v) / y = Q at *
  have e : Q * y = 4294967296 * (Q * y1) + Q * y0 := by rw [hy]; grind
  have := Int.mul_nonneg hQ0 hy0
  omega
theorem digit_range {u v y : Int} (hu0 : 0 ≤ u) (hu : u < y) (hv0 : 0 ≤ v) (hv : v < 4294967296) : 0 ≤ (4294967296 * u + v) / y ∧ (4294967296 * u + v) / y < 4294967296 := by
  refine ⟨Int.ediv_nonneg (by omega) (by omega), Int.ediv_lt_of_lt_mul (by omega) (by omega)⟩
/-- The rest behind a digit. -/
theorem digit_rest (u v y : Int) (h0 : 0 < y) : 0 ≤ 4294967296 * u + v - (4294967296 * u + v) / y * y ∧ 4294967296 * u + v - (4294967296 * u + v) / y * y < y := by
  have h1 := Int.emod_nonneg (4294967296 * u + v) (show y ≠ 0 by omega)
  have h2 := Int.emod_lt_of_pos (4294967296 * u + v) h0
  have h3 := Int.mul_ediv_add_emod (4294967296 * u + v) y
  rw [Int.mul_comm] at h3
  omega
/-- Two digits make the quotient. -/
theorem digits_two {u v1 v0 y : Int} (h0 : 0 < y) : (4294967296 * (4294967296 * u + v1) + v0) / y = 4294967296 * ((4294967296 * u + v1) / y) + (4294967296 * (4294967296 * u + v1 - (4294967296 * u + v1) / y * y) + v0) / y := by
  generalize hQ : (4294967296 * u + v1) / y = Q
  have e : 4294967296 * (4294967296 * u + v1) + v0 = (4294967296 * (4294967296 * u + v1 - Q * y) + v0) + (4294967296 * Q) * y := by grind
  rw [e, Int.add_mul_ediv_right _ _ (by omega)]
  omega

end Go.Proofs.Ytdmhdbebjjhopaa.M
