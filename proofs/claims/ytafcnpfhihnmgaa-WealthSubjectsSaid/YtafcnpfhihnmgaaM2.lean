/- What math/bits' Mul64, Len64, LeadingZeros64 and Div64 answer: the product in two words, the number of bits, the quotient. -/
import Derived.Test.YtafcnpfhihnmgaaPA1
import Derived.Test.YtafcnpfhihnmgaaM1
namespace Go.Proofs.Ytafcnpfhihnmgaa.PA
open Go Go.RowKit Go.Proofs.YtafcnpfhihnmgaaW.PrintWords Go.Proofs.YtafcnpfhihnmgaaW.PrintLast Go.Proofs.YtafcnpfhihnmgaaW.PrintMore Go.Proofs.Ytafcnpfhihnmgaa.M
set_option linter.unusedVariables false
set_option linter.unusedSimpArgs false

theorem mul64 {a b : Int} (ha0 : 0 ≤ a) (ha : a < 18446744073709551616) (hb0 : 0 ≤ b) (hb : b < 18446744073709551616) :
    bits_Mul64.f a b = some (a * b / 18446744073709551616, a * b % 18446744073709551616) := by
  unfold bits_Mul64.f
  rw [mul_high a b ha0 ha hb0 hb, u64]

theorem tab_all : ((List.range 256).all fun i => decide (0 ≤ bt (⟨#[0, 1, 2, 2, 3, 3, 3, 3, 4, 4, 4, 4, 4, 4, 4, 4, 5, 5, 5, 5, 5, 5, 5, 5, 5, 5, 5, 5, 5, 5, 5, 5, 6, 6, 6, 6, 6, 6, 6, 6, 6, 6, 6, 6, 6, 6, 6, 6, 6, 6, 6, 6, 6, 6, 6, 6, 6, 6, 6, 6, 6, 6, 6, 6, 7, 7, 7, 7, 7, 7, 7, 7, 7, 7, 7, 7, 7, 7, 7, 7, 7, 7, 7, 7, 7, 7, 7, 7, 7, 7, 7, 7, 7, 7, 7, 7, 7, 7, 7, 7, 7, 7, 7, 7, 7, 7, 7, 7, 7, 7, 7, 7, 7, 7, 7, 7, 7, 7, 7, 7, 7, 7, 7, 7, 7, 7, 7, 7, 8, 8, 8, 8, 8, 8, 8, 8, 8, 8, 8, 8, 8, 8, 8, 8, 8, 8, 8, 8, 8, 8, 8, 8, 8, 8, 8, 8, 8, 8, 8, 8, 8, 8, 8, 8, 8, 8, 8, 8, 8, 8, 8, 8, 8, 8, 8, 8, 8, 8, 8, 8, 8, 8, 8, 8, 8, 8, 8, 8, 8, 8, 8, 8, 8, 8, 8, 8, 8, 8, 8, 8, 8, 8, 8, 8, 8, 8, 8, 8, 8, 8, 8, 8, 8, 8, 8, 8, 8, 8, 8, 8, 8, 8, 8, 8, 8, 8, 8, 8, 8, 8, 8, 8, 8, 8, 8, 8, 8, 8, 8, 8, 8, 8, 8, 8, 8, 8, 8, 8, 8, 8, 8, 8, 8, 8, 8, 8]⟩ : ByteArray) (i : Int) ∧ bt (⟨#[0, 1, 2, 2, 3, 3, 3, 3, 4, 4, 4, 4, 4, 4, 4, 4, 5, 5, 5, 5, 5, 5, 5, 5, 5, 5, 5, 5, 5, 5, 5, 5, 6, 6, 6, 6, 6, 6, 6, 6, 6, 6, 6, 6, 6, 6, 6, 6, 6, 6, 6, 6, 6, 6, 6, 6, 6, 6, 6, 6, 6, 6, 6, 6, 7, 7, 7, 7, 7, 7, 7, 7, 7, 7, 7, 7, 7, 7, 7, 7, 7, 7, 7, 7, 7, 7, 7, 7, 7, 7, 7, 7, 7, 7, 7, 7, 7, 7, 7, 7, 7, 7, 7, 7, 7, 7, 7, 7, 7, 7, 7, 7, 7, 7, 7, 7, 7, 7, 7, 7, 7, 7, 7, 7, 7, 7, 7, 7, 8, 8, 8, 8, 8, 8, 8, 8, 8, 8, 8, 8, 8, 8, 8, 8, 8, 8, 8, 8, 8, 8, 8, 8, 8, 8, 8, 8, 8, 8, 8, 8, 8, 8, 8, 8, 8, 8, 8, 8, 8, 8, 8, 8, 8, 8, 8, 8, 8, 8, 8, 8, 8, 8, 8, 8, 8, 8, 8, 8, 8, 8, 8, 8, 8, 8, 8, 8, 8, 8, 8, 8, 8, 8, 8, 8, 8, 8, 8, 8, 8, 8, 8, 8, 8, 8, 8, 8, 8, 8, 8, 8, 8, 8, 8, 8, 8, 8, 8, 8, 8, 8, 8, 8, 8, 8, 8, 8, 8, 8, 8, 8, 8, 8, 8, 8, 8, 8, 8, 8, 8, 8, 8, 8, 8, 8, 8, 8]⟩ : ByteArray) (i : Int) ≤ 8 ∧ (i : Int) < 2 ^ (bt (⟨#[0, 1, 2, 2, 3, 3, 3, 3, 4, 4, 4, 4, 4, 4, 4, 4, 5, 5, 5, 5, 5, 5, 5, 5, 5, 5, 5, 5, 5, 5, 5, 5, 6, 6, 6, 6, 6, 6, 6, 6, 6, 6, 6, 6, 6, 6, 6, 6, 6, 6, 6, 6, 6, 6, 6, 6, 6, 6, 6, 6, 6, 6, 6, 6, 7, 7, 7, 7, 7, 7, 7, 7, 7, 7, 7, 7, 7, 7, 7, 7, 7, 7, 7, 7, 7, 7, 7, 7, 7, 7, 7, 7, 7, 7, 7, 7, 7, 7, 7, 7, 7, 7, 7, 7, 7, 7, 7, 7, 7, 7, 7, 7, 7, 7, 7, 7, 7, 7, 7, 7, 7, 7, 7, 7, 7, 7, 7, 7, 8, 8, 8, 8, 8, 8, 8, 8, 8, 8, 8, 8, 8, 8, 8, 8, 8, 8, 8, 8, 8, 8, 8, 8, 8, 8, 8, 8, 8, 8, 8, 8, 8, 8, 8, 8, 8, 8, 8, 8, 8, 8, 8, 8, 8, 8, 8, 8, 8, 8, 8, 8, 8, 8, 8, 8, 8, 8, 8, 8, 8, 8, 8, 8, 8, 8, 8, 8, 8, 8, 8, 8, 8, 8, 8, 8, 8, 8, 8, 8, 8, 8, 8, 8, 8, 8, 8, 8, 8, 8, 8, 8, 8, 8, 8, 8, 8, 8, 8, 8, 8, 8, 8, 8, 8, 8, 8, 8, 8, 8, 8, 8, 8, 8, 8, 8, 8, 8, 8, 8, 8, 8, 8, 8, 8, 8, 8, 8]⟩ : ByteArray) (i : Int)).toNat ∧ (0 < (i : Int) → 2 ^ (bt (⟨#[0, 1, 2, 2, 3, 3, 3, 3, 4, 4, 4, 4, 4, 4, 4, 4, 5, 5, 5, 5, 5, 5, 5, 5, 5, 5, 5, 5, 5, 5, 5, 5, 6, 6, 6, 6, 6, 6, 6, 6, 6, 6, 6, 6, 6, 6, 6, 6, 6, 6, 6, 6, 6, 6, 6, 6, 6, 6, 6, 6, 6, 6, 6, 6, 7, 7, 7, 7, 7, 7, 7, 7, 7, 7, 7, 7, 7, 7, 7, 7, 7, 7, 7, 7, 7, 7, 7, 7, 7, 7, 7, 7, 7, 7, 7, 7, 7, 7, 7, 7, 7, 7, 7, 7, 7, 7, 7, 7, 7, 7, 7, 7, 7, 7, 7, 7, 7, 7, 7, 7, 7, 7, 7, 7, 7, 7, 7, 7, 8, 8, 8, 8, 8, 8, 8, 8, 8, 8, 8, 8, 8, 8, 8, 8, 8, 8, 8, 8, 8, 8, 8, 8, 8, 8, 8, 8, 8, 8, 8, 8, 8, 8, 8, 8, 8, 8, 8, 8, 8, 8, 8, 8, 8, 8, 8, 8, 8, 8, 8, 8, 8, 8, 8, 8, 8, 8, 8, 8, 8, 8, 8, 8, 8, 8, 8, 8, 8, 8, 8, 8, 8, 8, 8, 8, 8, 8, 8, 8, 8, 8, 8, 8, 8, 8, 8, 8, 8, 8, 8, 8, 8, 8, 8, 8, 8, 8, 8, 8, 8, 8, 8, 8, 8, 8, 8, 8, 8, 8, 8, 8, 8, 8, 8, 8, 8, 8, 8, 8, 8, 8, 8, 8, 8, 8, 8, 8]⟩ : ByteArray) (i : Int)).toNat ≤ 2 * (i : Int)))) = true := by decide +kernel
theorem tab_spec (y : Int) (h0 : 0 ≤ y) (h1 : y < 256) : ∃ n : Nat, bt (⟨#[0, 1, 2, 2, 3, 3, 3, 3, 4, 4, 4, 4, 4, 4, 4, 4, 5, 5, 5, 5, 5, 5, 5, 5, 5, 5, 5, 5, 5, 5, 5, 5, 6, 6, 6, 6, 6, 6, 6, 6, 6, 6, 6, 6, 6, 6, 6, 6, 6, 6, 6, 6, 6, 6, 6, 6, 6, 6, 6, 6, 6, 6, 6, 6, 7, 7, 7, 7, 7, 7, 7, 7, 7, 7, 7, 7, 7, 7, 7, 7, 7, 7, 7, 7, 7, 7, 7, 7, 7, 7, 7, 7, 7, 7, 7, 7, 7, 7, 7, 7, 7, 7, 7, 7, 7, 7, 7, 7, 7, 7, 7, 7, 7, 7, 7, 7, 7, 7, 7, 7, 7, 7, 7, 7, 7, 7, 7, 7, 8, 8, 8, 8, 8, 8, 8, 8, 8, 8, 8, 8, 8, 8, 8, 8, 8, 8, 8, 8, 8, 8, 8, 8, 8, 8, 8, 8, 8, 8, 8, 8, 8, 8, 8, 8, 8, 8, 8, 8, 8, 8, 8, 8, 8, 8, 8, 8, 8, 8, 8, 8, 8, 8, 8, 8, 8, 8, 8, 8, 8, 8, 8, 8, 8, 8, 8, 8, 8, 8, 8, 8, 8, 8, 8, 8, 8, 8, 8, 8, 8, 8, 8, 8, 8, 8, 8, 8, 8, 8, 8, 8, 8, 8, 8, 8, 8, 8, 8, 8, 8, 8, 8, 8, 8, 8, 8, 8, 8, 8, 8, 8, 8, 8, 8, 8, 8, 8, 8, 8, 8, 8, 8, 8, 8, 8, 8, 8]⟩ : ByteArray) y = n ∧ n ≤ 8 ∧ y < 2 ^ n ∧ (0 < y → 2 ^ n ≤ 2 * y) := by
  obtain ⟨i, rfl⟩ := Int.eq_ofNat_of_zero_le h0
  have h := List.all_eq_true.mp tab_all i (List.mem_range.mpr (by omega))
  obtain ⟨g0, g1, g2, g3⟩ := of_decide_eq_true h
  generalize bt (⟨#[0, 1, 2, 2, 3, 3, 3, 3, 4, 4, 4, 4, 4, 4, 4, 4, 5, 5, 5, 5, 5, 5, 5, 5, 5, 5, 5, 5, 5, 5, 5, 5, 6, 6, 6, 6, 6, 6, 6, 6, 6, 6, 6, 6, 6, 6, 6, 6, 6, 6, 6, 6, 6, 6, 6, 6, 6, 6, 6, 6, 6, 6, 6, 6, 7, 7, 7, 7, 7, 7, 7, 7, 7, 7, 7, 7, 7, 7, 7, 7, 7, 7, 7, 7, 7, 7, 7, 7, 7, 7, 7, 7, 7, 7, 7, 7, 7, 7, 7, 7, 7, 7, 7, 7, 7, 7, 7, 7, 7, 7, 7, 7, 7, 7, 7, 7, 7, 7, 7, 7, 7, 7, 7, 7, 7, 7, 7, 7, 8, 8, 8, 8, 8, 8, 8, 8, 8, 8, 8, 8, 8, 8, 8, 8, 8, 8, 8, 8, 8, 8, 8, 8, 8, 8, 8, 8, 8, 8, 8, 8, 8, 8, 8, 8, 8, 8, 8, 8, 8, 8, 8, 8, 8, 8, 8, 8, 8, 8, 8, 8, 8, 8, 8, 8, 8, 8, 8, 8, 8, 8, 8, 8, 8, 8, 8, 8, 8, 8, 8, 8, 8, 8, 8, 8, 8, 8, 8, 8, 8, 8, 8, 8, 8, 8, 8, 8, 8, 8, 8, 8, 8, 8, 8, 8, 8, 8, 8, 8, 8, 8, 8, 8, 8, 8, 8, 8, 8, 8, 8, 8, 8, 8, 8, 8, 8, 8, 8, 8, 8, 8, 8, 8, 8, 8, 8, 8]⟩ : ByteArray) (i : Int) = b at *
  obtain ⟨n, rfl⟩ := Int.eq_ofNat_of_zero_le g0
  exact ⟨n, rfl, by omega, g2, g3⟩

/-- n is the number of bits of a. -/
def IsLen (a : Int) (n : Nat) : Prop := a < 2 ^ n ∧ (0 < a → 2 ^ n ≤ 2 * a)
theorem isLen_shift {a : Int} {c n : Nat} (h : IsLen (a / 2 ^ c) n) (hp : 0 < a / 2 ^ c) : IsLen a (c + n) := by
  obtain ⟨h1, h2⟩ := h
  have h2 := h2 hp
  have hc : (0 : Int) < 2 ^ c := Int.pow_pos (by omega)
  unfold IsLen
  rw [Int.pow_add, Int.mul_comm]
  refine ⟨?_, fun _ => ?_⟩
  · have := Int.lt_mul_of_ediv_lt hc h1
    exact this
  · have e := Int.mul_le_mul_of_nonneg_right h2 (Int.le_of_lt hc)
    have := Int.ediv_mul_le a (b := 2 ^ c) (by omega)
    generalize a / 2 ^ c = q at *
    rw [Int.mul_assoc] at e
    omega

set_option maxRecDepth 20000 in
theorem len_j1 (k : Nat) (x : Int) (c : Nat) (h0 : 0 ≤ x) (h1 : x < 65536) (hc : c ≤ 48) : ∃ n : Nat, bits_Len64.j1 (k + 1) x c = some ((c : Int) + n) ∧ n ≤ 16 ∧ IsLen x n := by
  rw [bits_Len64.j1]
  by_cases hx : x ≥ 256
  · rw [if_pos hx, if_pos (by omega), if_pos (by omega)]
    have e : x / 256 % 256 = x / 256 := by omega
    rw [e]
    obtain ⟨n, e1, e2, e3, e4⟩ := tab_spec (x / 256) (by omega) (by omega)
    rw [e1]
    refine ⟨8 + n, ?_, by omega, ?_⟩
    · congr 1
      rw [w64_id (x := (c : Int) + 8) (by omega) (by omega), w64_id (x := (n : Int)) (by omega) (by omega), w64_id (by omega) (by omega)]
      omega
    · exact isLen_shift (c := 8) ⟨by simpa using e3, fun _ => by simpa using e4 (by omega)⟩ (by simp; omega)
  · rw [if_neg hx, if_pos (by omega), if_pos (by omega)]
    have e : x % 256 = x := by omega
    rw [e]
    obtain ⟨n, e1, e2, e3, e4⟩ := tab_spec x (by omega) (by omega)
    rw [e1]
    refine ⟨n, ?_, by omega, ⟨e3, e4⟩⟩
    congr 1
    rw [w64_id (x := (n : Int)) (by omega) (by omega), w64_id (by omega) (by omega)]

theorem len_j0 (k : Nat) (x : Int) (c : Nat) (h0 : 0 ≤ x) (h1 : x < 4294967296) (hc : c ≤ 32) : ∃ n : Nat, bits_Len64.j0 (k + 2) x c = some ((c : Int) + n) ∧ n ≤ 32 ∧ IsLen x n := by
  simp only [bits_Len64.j0]
  by_cases hx : x ≥ 65536
  · rw [if_pos hx, w64_id (x := (c : Int) + 16) (by omega) (by omega)]
    obtain ⟨n, e1, e2, e3⟩ := len_j1 k (x / 65536) (c + 16) (by omega) (by omega) (by omega)
    refine ⟨16 + n, ?_, by omega, ?_⟩
    · rw [show ((c : Int) + 16) = ((c + 16 : Nat) : Int) by omega, e1]
      congr 1; omega
    · exact isLen_shift (c := 16) (by simpa using e3) (by simp; omega)
  · rw [if_neg hx]
    obtain ⟨n, e1, e2, e3⟩ := len_j1 k x c (by omega) (by omega) (by omega)
    exact ⟨n, e1, by omega, e3⟩

theorem len64 (k : Nat) (x : Int) (h0 : 0 ≤ x) (h1 : x < 18446744073709551616) : ∃ n : Nat, bits_Len64.f (k + 2) x = some (n : Int) ∧ n ≤ 64 ∧ IsLen x n := by
  unfold bits_Len64.f
  by_cases hx : x ≥ 4294967296
  · rw [if_pos hx]
    obtain ⟨n, e1, e2, e3⟩ := len_j0 k (x / 4294967296) 32 (by omega) (by omega) (by omega)
    refine ⟨32 + n, ?_, by omega, ?_⟩
    · have e1 : bits_Len64.j0 (k + 2) (x / 4294967296) 32 = some (32 + (n : Int)) := e1
      rw [e1]
      congr 1
    · exact isLen_shift (c := 32) (by simpa using e3) (by simp; omega)
  · rw [if_neg hx]
    obtain ⟨n, e1, e2, e3⟩ := len_j0 k x 0 (by omega) (by omega) (by omega)
    have e1 : bits_Len64.j0 (k + 2) x 0 = some (0 + (n : Int)) := e1
    refine ⟨n, by rw [e1]; congr 1; omega, by omega, e3⟩

theorem two_pow_pos (n : Nat) : (0 : Int) < 2 ^ n := Int.pow_pos (by omega)
theorem zeros64 (k : Nat) (y : Int) (h0 : 0 < y) (h1 : y < 18446744073709551616) : ∃ s : Nat, bits_LeadingZeros64.f (k + 2) y = some (s : Int) ∧ s ≤ 64 ∧ y * 2 ^ s < 18446744073709551616 ∧ 9223372036854775808 ≤ y * 2 ^ s := by
  unfold bits_LeadingZeros64.f
  obtain ⟨n, e1, e2, e3, e4⟩ := len64 k y (by omega) h1
  rw [e1]
  have e4 := e4 h0
  have hs : (2 : Int) ^ n * 2 ^ (64 - n) = 18446744073709551616 := by
    rw [← Int.pow_add, show n + (64 - n) = 64 by omega]; rfl
  have hp := two_pow_pos (64 - n)
  refine ⟨64 - n, ?_, by omega, ?_, ?_⟩
  · simp only [Option.bind_some]
    congr 1
    rw [w64_id (by omega) (by omega)]
    omega
  · have := Int.mul_lt_mul_of_pos_right e3 hp
    omega
  · have e := Int.mul_le_mul_of_nonneg_right e4 (Int.le_of_lt hp)
    rw [Int.mul_assoc] at e
    generalize y * 2 ^ (64 - n) = z at *
    omega

/-! The two loops of Div64. -/
section
variable {y y1 y0 d : Int}
theorem div_l1 (hy : y = 4294967296 * y1 + y0) (hy1 : 2147483648 ≤ y1) (hy1' : y1 < 4294967296) (hy0 : 0 ≤ y0) (hy0' : y0 < 4294967296) (hd : 0 ≤ d) (a15 a17 v : Int) (hv0 : 0 ≤ v) (hv : v < 4294967296) (u : Int) (hu0 : 0 ≤ u) (hu : u < y)
    (n : Nat) : ∀ (q r : Int), 0 ≤ r → r < 4294967296 → q * y1 + r = u → (4294967296 * u + v) / y ≤ q → q < 18446744073709551616 → q - (4294967296 * u + v) / y = n →
    ∃ z, Ev (fun k => bits_Div64.l1 k y d y1 y0 v a15 r a17 q) (IntKind.u64.wrap ((IntKind.u64.wrap (a15 * 4294967296)) + (4294967296 * u + v) / y), z) := by
  have h0 : 0 < y := by omega
  have hQ := digit_range hu0 hu hv0 hv
  induction n with
  | zero =>
    intro q r hr0 hr hq hQq hqm hn
    have hqQ : q = (4294967296 * u + v) / y := by omega
    have hc : ¬ (4294967296 ≤ q ∨ 4294967296 * r + v < q * y0) := fun c => by have := digit_less hy hu hv hq h0 c; omega
    have hc1 : ¬ q ≥ 4294967296 := fun c => hc (.inl c)
    have hc2 : q * y0 ≤ 4294967296 * r + v := by
      rcases Int.lt_or_le (4294967296 * r + v) (q * y0) with c | c
      · exact absurd (.inr c) hc
      · exact c
    have hm := mul_le (show 0 ≤ q by omega) hy0 (show q ≤ 4294967295 by omega) (show y0 ≤ 4294967295 by omega)
    refine ⟨shr .u64 (IntKind.u64.wrap ((IntKind.u64.wrap ((IntKind.u64.wrap (a17 * 4294967296)) + v)) - (IntKind.u64.wrap (q * y)))) d, Ev.step (f := fun k => bits_Div64.j4 k y d y1 y0 v a15 r a17 q false) (fun k => ?_) (Ev.step (f := fun _ => some _) (fun k => ?_) (Ev.now _))⟩
    · simp only [bits_Div64.l1]
      rw [if_neg hc1]
      congr 1
      rw [u64_id hm.1 (by omega), u64_id (x := 4294967296 * r) (by omega) (by omega), u64_id (x := 4294967296 * r + v) (by omega) (by omega)]
      exact decide_eq_false (by omega)
    · simp only [bits_Div64.j4]
      rw [if_neg (by decide), if_pos hd, ← hqQ]
  | succ n ih =>
    intro q r hr0 hr hq hQq hqm hn
    have hc : 4294967296 ≤ q ∨ 4294967296 * r + v < q * y0 := by
      rcases Int.lt_or_le (4294967296 * r + v) (q * y0) with c | c
      · exact .inr c
      · have := digit_most hy hq h0 c; omega
    have w1 : IntKind.u64.wrap (q - 1) = q - 1 := u64_id (by omega) (by omega)
    have w2 : IntKind.u64.wrap (r + y1) = r + y1 := u64_id (by omega) (by omega)
    have hq' : (q - 1) * y1 + (r + y1) = u := by rw [Int.sub_mul]; omega
    have first : ∀ k, bits_Div64.l1 (k + 1) y d y1 y0 v a15 r a17 q = bits_Div64.j4 k y d y1 y0 v a15 r a17 q true := by
      intro k
      simp only [bits_Div64.l1]
      by_cases c1 : q ≥ 4294967296
      · rw [if_pos c1]
      · rw [if_neg c1]
        have hm := mul_le (show 0 ≤ q by omega) hy0 (show q ≤ 4294967295 by omega) (show y0 ≤ 4294967295 by omega)
        congr 1
        rw [u64_id hm.1 (by omega), u64_id (x := 4294967296 * r) (by omega) (by omega), u64_id (x := 4294967296 * r + v) (by omega) (by omega)]
        exact decide_eq_true (by omega)
    by_cases hb : r + y1 ≥ 4294967296
    · have hle := digit_break hy (by omega) hy0 hy0' hu hv0 (by omega) hq' h0 hb
      have hqQ : q - 1 = (4294967296 * u + v) / y := by omega
      refine ⟨shr .u64 (IntKind.u64.wrap ((IntKind.u64.wrap ((IntKind.u64.wrap (a17 * 4294967296)) + v)) - (IntKind.u64.wrap ((q - 1) * y)))) d, Ev.step first (Ev.step (f := fun _ => some _) (fun k => ?_) (Ev.now _))⟩
      simp only [bits_Div64.j4]
      rw [if_pos (by trivial), w2, if_pos hb, if_pos hd, w1, ← hqQ]
    · obtain ⟨z, hz⟩ := ih (q - 1) (r + y1) (by omega) (by omega) hq' (by omega) (by omega) (by omega)
      refine ⟨z, Ev.step first (Ev.step (fun k => ?_) hz)⟩
      simp only [bits_Div64.j4]
      rw [if_pos (by trivial), w2, if_neg hb, w1]

theorem div_l0 (hy : y = 4294967296 * y1 + y0) (hy1 : 2147483648 ≤ y1) (hy1' : y1 < 4294967296) (hy0 : 0 ≤ y0) (hy0' : y0 < 4294967296) (a14 v : Int) (hv0 : 0 ≤ v) (hv : v < 4294967296) (u : Int) (hu0 : 0 ≤ u) (hu : u < y) (res : Int × Int)
    (hres : Ev (fun k => bits_Div64.j2 k y d y1 y0 u v a14 ((4294967296 * u + v) / y)) res)
    (n : Nat) : ∀ (q r : Int), 0 ≤ r → r < 4294967296 → q * y1 + r = u → (4294967296 * u + v) / y ≤ q → q < 18446744073709551616 → q - (4294967296 * u + v) / y = n →
    Ev (fun k => bits_Div64.l0 k y d y1 y0 u v a14 q r) res := by
  have h0 : 0 < y := by omega
  have hQ := digit_range hu0 hu hv0 hv
  induction n with
  | zero =>
    intro q r hr0 hr hq hQq hqm hn
    have hqQ : q = (4294967296 * u + v) / y := by omega
    have hc : ¬ (4294967296 ≤ q ∨ 4294967296 * r + v < q * y0) := fun c => by have := digit_less hy hu hv hq h0 c; omega
    have hc1 : ¬ q ≥ 4294967296 := fun c => hc (.inl c)
    have hc2 : q * y0 ≤ 4294967296 * r + v := by
      rcases Int.lt_or_le (4294967296 * r + v) (q * y0) with c | c
      · exact absurd (.inr c) hc
      · exact c
    have hm := mul_le (show 0 ≤ q by omega) hy0 (show q ≤ 4294967295 by omega) (show y0 ≤ 4294967295 by omega)
    refine Ev.step (f := fun k => bits_Div64.j1 k y d y1 y0 u v a14 q r false) (fun k => ?_) (Ev.step (fun k => ?_) hres)
    · simp only [bits_Div64.l0]
      rw [if_neg hc1]
      congr 1
      rw [u64_id hm.1 (by omega), u64_id (x := 4294967296 * r) (by omega) (by omega), u64_id (x := 4294967296 * r + v) (by omega) (by omega)]
      exact decide_eq_false (by omega)
    · simp only [bits_Div64.j1]
      rw [if_neg (by decide), ← hqQ]
  | succ n ih =>
    intro q r hr0 hr hq hQq hqm hn
    have hc : 4294967296 ≤ q ∨ 4294967296 * r + v < q * y0 := by
      rcases Int.lt_or_le (4294967296 * r + v) (q * y0) with c | c
      · exact .inr c
      · have := digit_most hy hq h0 c; omega
    have w1 : IntKind.u64.wrap (q - 1) = q - 1 := u64_id (by omega) (by omega)
    have w2 : IntKind.u64.wrap (r + y1) = r + y1 := u64_id (by omega) (by omega)
    have hq' : (q - 1) * y1 + (r + y1) = u := by rw [Int.sub_mul]; omega
    have first : ∀ k, bits_Div64.l0 (k + 1) y d y1 y0 u v a14 q r = bits_Div64.j1 k y d y1 y0 u v a14 q r true := by
      intro k
      simp only [bits_Div64.l0]
      by_cases c1 : q ≥ 4294967296
      · rw [if_pos c1]
      · rw [if_neg c1]
        have hm := mul_le (show 0 ≤ q by omega) hy0 (show q ≤ 4294967295 by omega) (show y0 ≤ 4294967295 by omega)
        congr 1
        rw [u64_id hm.1 (by omega), u64_id (x := 4294967296 * r) (by omega) (by omega), u64_id (x := 4294967296 * r + v) (by omega) (by omega)]
        exact decide_eq_true (by omega)
    by_cases hb : r + y1 ≥ 4294967296
    · have hle := digit_break hy (by omega) hy0 hy0' hu hv0 (by omega) hq' h0 hb
      have hqQ : q - 1 = (4294967296 * u + v) / y := by omega
      refine Ev.step first (Ev.step (fun k => ?_) hres)
      simp only [bits_Div64.j1]
      rw [if_pos (by trivial), w2, if_pos hb, w1, ← hqQ]
    · refine Ev.step first (Ev.step (fun k => ?_) (ih (q - 1) (r + y1) (by omega) (by omega) hq' (by omega) (by omega) (by omega)))
      simp only [bits_Div64.j1]
      rw [if_pos (by trivial), w2, if_neg hb, w1]
end

/-- The quotient of a normalized division. -/
theorem div_norm {y d : Int} (hy : 9223372036854775808 ≤ y) (hy' : y < 18446744073709551616) (hd : 0 ≤ d) (u w : Int) (hu0 : 0 ≤ u) (hu : u < y) (hw0 : 0 ≤ w) (hw : w < 18446744073709551616) :
    ∃ z, Ev (fun k => bits_Div64.l0 k y d (y / 4294967296) (Go.bits .and .u64 y 4294967295) u (w / 4294967296) (Go.bits .and .u64 w 4294967295) (IntKind.u64.wrap (Int.tdiv u (y / 4294967296))) (IntKind.u64.wrap (u - (IntKind.u64.wrap ((IntKind.u64.wrap (Int.tdiv u (y / 4294967296))) * (y / 4294967296)))))) ((18446744073709551616 * u + w) / y, z) := by
  rw [and32 (by omega) hy', and32 hw0 hw, Int.tdiv_eq_ediv_of_nonneg hu0]
  have ey : y = 4294967296 * (y / 4294967296) + y % 4294967296 := by omega
  have ew : w = 4294967296 * (w / 4294967296) + w % 4294967296 := by omega
  have b1 : 2147483648 ≤ y / 4294967296 ∧ y / 4294967296 < 4294967296 := by omega
  have b0 : 0 ≤ y % 4294967296 ∧ y % 4294967296 < 4294967296 := by omega
  have w1 : 0 ≤ w / 4294967296 ∧ w / 4294967296 < 4294967296 := by omega
  have w0 : 0 ≤ w % 4294967296 ∧ w % 4294967296 < 4294967296 := by omega
  generalize y / 4294967296 = y1 at *
  generalize y % 4294967296 = y0 at *
  generalize w / 4294967296 = v1 at *
  generalize w % 4294967296 = v0 at *
  have h0 : 0 < y := by omega
  have start : ∀ u : Int, 0 ≤ u → u < y → 0 ≤ u / y1 ∧ u / y1 * y1 + u % y1 = u ∧ 0 ≤ u % y1 ∧ u % y1 < 4294967296 ∧ u / y1 < 18446744073709551616 ∧ IntKind.u64.wrap (u / y1) = u / y1 ∧ IntKind.u64.wrap (u - (IntKind.u64.wrap (u / y1 * y1))) = u % y1 := by
    intro u hu0 hu
    have g1 := Int.mul_ediv_add_emod u y1
    rw [Int.mul_comm] at g1
    have g2 := Int.emod_nonneg u (show y1 ≠ 0 by omega)
    have g3 := Int.emod_lt_of_pos u (show 0 < y1 by omega)
    have g4 : 0 ≤ u / y1 := Int.ediv_nonneg hu0 (by omega)
    have g6 : 0 ≤ u / y1 * y1 := Int.mul_nonneg g4 (by omega)
    have g5 : u / y1 < 18446744073709551616 := by
      apply Int.ediv_lt_of_lt_mul (by omega)
      omega
    refine ⟨g4, g1, g2, by omega, g5, u64_id g4 g5, ?_⟩
    rw [u64_id (x := u / y1 * y1) (by omega) (by omega), u64_id (by omega) (by omega)]
    omega
  have hQ := digit_range hu0 hu w1.1 w1.2
  have hR := digit_rest u v1 y h0
  have key : (18446744073709551616 * u + w) / y = 4294967296 * ((4294967296 * u + v1) / y) + (4294967296 * (4294967296 * u + v1 - (4294967296 * u + v1) / y * y) + v0) / y := by
    rw [← digits_two h0]
    congr 1
    rw [ew]; omega
  have hQ0 := digit_range hR.1 hR.2 w0.1 w0.2
  -- the second digit
  obtain ⟨s1, s2, s3, s4, s5, s6, s7⟩ := start _ hR.1 hR.2
  obtain ⟨z, hz⟩ := div_l1 (d := d) ey b1.1 b1.2 b0.1 b0.2 hd ((4294967296 * u + v1) / y) (4294967296 * u + v1 - (4294967296 * u + v1) / y * y) v0 w0.1 w0.2 (4294967296 * u + v1 - (4294967296 * u + v1) / y * y) hR.1 hR.2
    (((4294967296 * u + v1 - (4294967296 * u + v1) / y * y) / y1 - (4294967296 * (4294967296 * u + v1 - (4294967296 * u + v1) / y * y) + v0) / y).toNat) _ _ s3 s4 s2 (digit_first ey (by omega) b0.1 hR.1 w0.1 w0.2) s5
    (by have := digit_first (u := 4294967296 * u + v1 - (4294967296 * u + v1) / y * y) (v := v0) ey (by omega) b0.1 hR.1 w0.1 w0.2; omega)
  have eR : IntKind.u64.wrap ((IntKind.u64.wrap ((IntKind.u64.wrap (u * 4294967296)) + v1)) - (IntKind.u64.wrap ((4294967296 * u + v1) / y * y))) = 4294967296 * u + v1 - (4294967296 * u + v1) / y * y := by
    simp only [u64]
    generalize (4294967296 * u + v1) / y * y = T at *
    omega
  have hj2 : Ev (fun k => bits_Div64.j2 k y d y1 y0 u v1 v0 ((4294967296 * u + v1) / y)) ((18446744073709551616 * u + w) / y, z) := by
    refine Ev.step (f := fun k => bits_Div64.l1 k y d y1 y0 v0 ((4294967296 * u + v1) / y) ((4294967296 * u + v1 - (4294967296 * u + v1) / y * y) % y1) (4294967296 * u + v1 - (4294967296 * u + v1) / y * y) ((4294967296 * u + v1 - (4294967296 * u + v1) / y * y) / y1)) (fun k => ?_) ?_
    · simp only [bits_Div64.j2]
      rw [if_neg (by omega), eR, Int.tdiv_eq_ediv_of_nonneg hR.1, s6, s7]
    · rw [key]
      have e2 : IntKind.u64.wrap ((IntKind.u64.wrap ((4294967296 * u + v1) / y * 4294967296)) + (4294967296 * (4294967296 * u + v1 - (4294967296 * u + v1) / y * y) + v0) / y) = 4294967296 * ((4294967296 * u + v1) / y) + (4294967296 * (4294967296 * u + v1 - (4294967296 * u + v1) / y * y) + v0) / y := by
        rw [u64_id (x := (4294967296 * u + v1) / y * 4294967296) (by omega) (by omega), u64_id (by omega) (by omega)]
        omega
      rw [e2] at hz
      exact hz
  obtain ⟨t1, t2, t3, t4, t5, t6, t7⟩ := start u hu0 hu
  refine ⟨z, ?_⟩
  rw [t6, t7]
  exact div_l0 ey b1.1 b1.2 b0.1 b0.2 v0 v1 w1.1 w1.2 u hu0 hu _ hj2 ((u / y1 - (4294967296 * u + v1) / y).toNat) _ _ t3 t4 t2 (digit_first ey (by omega) b0.1 hu0 w1.1 w1.2) t5 (by have := digit_first (u := u) (v := v1) ey (by omega) b0.1 hu0 w1.1 w1.2; omega)

/-- What Div64 answers: the quotient (and some rest). -/
theorem div64 {hi lo y : Int} (h0 : 0 ≤ hi) (h1 : hi < y) (hl0 : 0 ≤ lo) (hl : lo < 18446744073709551616) (hy : y < 18446744073709551616) : ∃ z, Ev (fun k => bits_Div64.f k hi lo y) ((18446744073709551616 * hi + lo) / y, z) := by
  by_cases hz : hi = 0
  · subst hz
    refine ⟨Int.tmod lo y, Ev.congr (f := fun _ => some _) (fun k => ?_) (Ev.now _)⟩
    unfold bits_Div64.f
    rw [if_neg (by omega), if_neg (by omega), if_pos rfl, Int.tdiv_eq_ediv_of_nonneg hl0, u64_id (Int.ediv_nonneg hl0 (by omega)) (Int.lt_of_le_of_lt (Int.ediv_le_self _ hl0) hl)]
    simp only [Int.mul_zero, Int.zero_add]
  · obtain ⟨s, hs0, hs64, hs1, hs2⟩ := zeros64 0 y (by omega) hy
    have hz : ∀ k, bits_LeadingZeros64.f (k + 2) y = some (s : Int) := by
      intro k
      exact at_rounds (g := fun k => bits_LeadingZeros64.f k y) (fun k => bits_LeadingZeros64.mono y k) (show 2 ≤ k + 2 by omega) hs0
    have hsp := two_pow_pos s
    have hslt : s < 64 := by
      rcases Nat.lt_or_ge s 64 with c | c
      · exact c
      · have : s = 64 := by omega
        subst this
        have : (2 : Int) ^ 64 = 18446744073709551616 := by rfl
        rw [this] at hs1
        omega
    have hsd : (2 : Int) ^ s * 2 ^ (64 - s) = 18446744073709551616 := by
      rw [← Int.pow_add, show s + (64 - s) = 64 by omega]; rfl
    have hDp := two_pow_pos (64 - s)
    -- the words
    have hyd : shl .u64 y (IntKind.u64.wrap (s : Int)) = y * 2 ^ s := by
      unfold shl
      rw [u64_id (x := (s : Int)) (by omega) (by omega)]
      rw [show min ((s : Int).toNat) IntKind.u64.bits = s by simp [IntKind.bits]; omega]
      exact u64_id (by omega) (by omega)
    have hhd0 : 0 ≤ hi * 2 ^ s := Int.mul_nonneg h0 (Int.le_of_lt hsp)
    have hhd1 : hi * 2 ^ s < y * 2 ^ s := Int.mul_lt_mul_of_pos_right h1 hsp
    have hhd : shl .u64 hi (IntKind.u64.wrap (s : Int)) = hi * 2 ^ s := by
      unfold shl
      rw [u64_id (x := (s : Int)) (by omega) (by omega)]
      rw [show min ((s : Int).toNat) IntKind.u64.bits = s by simp [IntKind.bits]; omega]
      exact u64_id (by omega) (by omega)
    have hw64 : IntKind.u64.wrap (64 - (s : Int)) = ((64 - s : Nat) : Int) := by
      rw [u64_id (by omega) (by omega)]; omega
    have hlD : shr .u64 lo (IntKind.u64.wrap (64 - (IntKind.u64.wrap (s : Int)))) = lo / 2 ^ (64 - s) := by
      unfold shr
      rw [u64_id (x := (s : Int)) (by omega) (by omega), hw64]
      rw [show min (((64 - s : Nat) : Int).toNat) IntKind.u64.bits = 64 - s by simp [IntKind.bits]]
    have hlD0 : 0 ≤ lo / 2 ^ (64 - s) := Int.ediv_nonneg hl0 (Int.le_of_lt hDp)
    have hlD1 : lo / 2 ^ (64 - s) < 2 ^ s := Int.ediv_lt_of_lt_mul hDp (by rw [hsd]; exact hl)
    have hle : (2 : Int) ^ s ≤ 9223372036854775808 := by
      have e : (2 : Int) ^ s * 2 ^ (63 - s) = 9223372036854775808 := by rw [← Int.pow_add, show s + (63 - s) = 63 by omega]; rfl
      have := two_pow_pos (63 - s)
      have := Int.mul_le_mul_of_nonneg_left (show (1 : Int) ≤ 2 ^ (63 - s) by omega) (Int.le_of_lt hsp)
      omega
    have hun : Go.bits .or .u64 (hi * 2 ^ s) (lo / 2 ^ (64 - s)) = hi * 2 ^ s + lo / 2 ^ (64 - s) :=
      join s hhd0 (Int.mul_emod_left _ _) (by omega) hlD0 hlD1 (by omega)
    have hu0 : 0 ≤ hi * 2 ^ s + lo / 2 ^ (64 - s) := by omega
    have hu1 : hi * 2 ^ s + lo / 2 ^ (64 - s) < y * 2 ^ s := by
      have : (hi + 1) * 2 ^ s ≤ y * 2 ^ s := Int.mul_le_mul_of_nonneg_right (by omega) (Int.le_of_lt hsp)
      rw [Int.add_mul] at this
      omega
    have hlow : shl .u64 lo (IntKind.u64.wrap (s : Int)) = lo % 2 ^ (64 - s) * 2 ^ s := by
      unfold shl
      rw [u64_id (x := (s : Int)) (by omega) (by omega)]
      rw [show min ((s : Int).toNat) IntKind.u64.bits = s by simp [IntKind.bits]; omega]
      have g := Int.mul_ediv_add_emod lo (2 ^ (64 - s))
      have g2 := Int.emod_nonneg lo (show (2 : Int) ^ (64 - s) ≠ 0 by omega)
      have g3 := Int.emod_lt_of_pos lo hDp
      have e : lo * 2 ^ s = lo % 2 ^ (64 - s) * 2 ^ s + 18446744073709551616 * (lo / 2 ^ (64 - s)) := by
        rw [← hsd]
        conv => lhs; rw [← g]
        grind
      have h3 : 0 ≤ lo % 2 ^ (64 - s) * 2 ^ s := Int.mul_nonneg g2 (Int.le_of_lt hsp)
      have h4 : lo % 2 ^ (64 - s) * 2 ^ s < 18446744073709551616 := by
        have := Int.mul_lt_mul_of_pos_right g3 hsp
        rw [Int.mul_comm (2 ^ (64 - s))] at this
        omega
      rw [u64, e]
      omega
    have hw0 : 0 ≤ lo % 2 ^ (64 - s) * 2 ^ s := Int.mul_nonneg (Int.emod_nonneg lo (by omega)) (Int.le_of_lt hsp)
    have hw1 : lo % 2 ^ (64 - s) * 2 ^ s < 18446744073709551616 := by
      have := Int.mul_lt_mul_of_pos_right (Int.emod_lt_of_pos lo hDp) hsp
      rw [Int.mul_comm (2 ^ (64 - s))] at this
      omega
    obtain ⟨z, hz'⟩ := div_norm (d := IntKind.u64.wrap (s : Int)) hs2 hs1 (by rw [u64_id (by omega) (by omega)]; omega) _ _ hu0 hu1 hw0 hw1
    have quo : (18446744073709551616 * (hi * 2 ^ s + lo / 2 ^ (64 - s)) + lo % 2 ^ (64 - s) * 2 ^ s) / (y * 2 ^ s) = (18446744073709551616 * hi + lo) / y := by
      have e : 18446744073709551616 * (hi * 2 ^ s + lo / 2 ^ (64 - s)) + lo % 2 ^ (64 - s) * 2 ^ s = (18446744073709551616 * hi + lo) * 2 ^ s := by
        have g := Int.mul_ediv_add_emod lo (2 ^ (64 - s))
        conv => rhs; rw [← g]
        rw [← hsd]
        grind
      rw [e, Int.mul_ediv_mul_of_pos_left _ _ hsp]
    rw [quo] at hz'
    refine ⟨z, ?_⟩
    obtain ⟨K, hK⟩ := hz'
    refine ⟨K + 2, fun k hk => ?_⟩
    show bits_Div64.f k hi lo y = _
    unfold bits_Div64.f
    obtain ⟨m, rfl⟩ : ∃ m, k = m + 2 := ⟨k - 2, by omega⟩
    rw [if_neg (by omega), if_neg (by omega), if_neg (by omega), hz m]
    simp only [Option.bind_some]
    rw [hyd, hhd, hlD, hun, hlow]
    rw [if_pos (by rw [u64_id (by omega) (by omega)]; omega), if_pos (by rw [u64_id (x := (s : Int)) (by omega) (by omega), u64_id (by omega) (by omega)]; omega), if_neg (by omega)]
    exact hK (m + 2) (by omega)
end Go.Proofs.Ytafcnpfhihnmgaa.PA
