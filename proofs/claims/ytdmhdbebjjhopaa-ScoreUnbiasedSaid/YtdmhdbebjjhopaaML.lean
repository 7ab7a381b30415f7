/- What math/bits' Len64 answers: the number of bits. -/
import Derived.Test.YtdmhdbebjjhopaaPA2
import Derived.Test.YtdmhdbebjjhopaaM1
namespace Go.Proofs.Ytdmhdbebjjhopaa.PA
open Go Go.RowKit Go.Proofs.YtdmhdbebjjhopaaW.PrintWords Go.Proofs.YtdmhdbebjjhopaaW.PrintLast Go.Proofs.YtdmhdbebjjhopaaW.PrintMore Go.Proofs.Ytdmhdbebjjhopaa.M
set_option linter.unusedVariables false
set_option linter.unusedSimpArgs false

theorem tab_all : ((List.range 256).all fun i => decide (0 ≤ bt (⟨#[0, 1, 2, 2, 3, 3, 3, 3, 4, 4, 4, 4, 4, 4, 4, 4, 5, 5, 5, 5, 5, 5, 5, 5, 5, 5, 5, 5, 5, 5, 5, 5, 6, 6, 6, 6, 6, 6, 6, 6, 6, 6, 6, 6, 6, 6, 6, 6, 6, 6, 6, 6, 6, 6, 6, 6, 6, 6, 6, 6, 6, 6, 6, 6, 7, 7, 7, 7, 7, 7, 7, 7, 7, 7, 7, 7, 7, 7, 7, 7, 7, 7, 7, 7, 7, 7, 7, 7, 7, 7, 7, 7, 7, 7, 7, 7, 7, 7, 7, 7, 7, 7, 7, 7, 7, 7, 7, 7, 7, 7, 7, 7, 7, 7, 7, 7, 7, 7, 7, 7, 7, 7, 7, 7, 7, 7, 7, 7, 8, 8, 8, 8, 8, 8, 8, 8, 8, 8, 8, 8, 8, 8, 8, 8, 8, 8, 8, 8, 8, 8, 8, 8, 8, 8, 8, 8, 8, 8, 8, 8, 8, 8, 8, 8, 8, 8, 8, 8, 8, 8, 8, 8, 8, 8, 8, 8, 8, 8, 8, 8, 8, 8, 8, 8, 8, 8, 8, 8, 8, 8, 8, 8, 8, 8, 8, 8, 8, 8, 8, 8, 8, 8, 8, 8, 8, 8, 8, 8, 8, 8, 8, 8, 8, 8, 8, 8, 8, 8, 8, 8, 8, 8, 8, 8, 8, 8, 8, 8, 8, 8, 8, 8, 8, 8, 8, 8, 8, 8, 8, 8, 8, 8, 8, 8, 8, 8, 8, 8, 8, 8, 8, 8, 8, 8, 8, 8]⟩ : ByteArray) (i : Int) ∧ bt (⟨#[0, 1, 2, 2, 3, 3, 3, 3, 4, 4, 4, 4, 4, 4, 4, 4, 5, 5, 5, 5, 5, 5, 5, 5, 5, 5, 5, 5, 5, 5, 5, 5, 6, 6, 6, 6, 6, 6, 6, 6, 6, 6, 6, 6, 6, 6, 6, 6, 6, 6, 6, 6, 6, 6, 6, 6, 6, 6, 6, 6, 6, 6, 6, 6, 7, 7, 7, 7, 7, 7, 7, 7, 7, 7, 7, 7, 7, 7, 7, 7, 7, 7, 7, 7, 7, 7, 7, 7, 7, 7, 7, 7, 7, 7, 7, 7, 7, 7, 7, 7, 7, 7, 7, 7, 7, 7, 7, 7, 7, 7, 7, 7, 7, 7, 7, 7, 7, 7, 7, 7, 7, 7, 7, 7, 7, 7, 7, 7, 8, 8, 8, 8, 8, 8, 8, 8, 8, 8, 8, 8, 8, 8, 8, 8, 8, 8, 8, 8, 8, 8, 8, 8, 8, 8, 8, 8, 8, 8, 8, 8, 8, 8, 8, 8, 8, 8, 8, 8, 8, 8, 8, 8, 8, 8, 8, 8, 8, 8, 8, 8, 8, 8, 8, 8, 8, 8, 8, 8, 8, 8, 8, 8, 8, 8, 8, 8, 8, 8, 8, 8, 8, 8, 8, 8, 8, 8, 8, 8, 8, 8, 8, 8, 8, 8, 8, 8, 8, 8, 8, 8, 8, 8, 8, 8, 8, 8, 8, 8, 8, 8, 8, 8, 8, 8, 8, 8, 8, 8, 8, 8, 8, 8, 8, 8, 8, 8, 8, 8, 8, 8, 8, 8, 8, 8, 8, 8]⟩ : ByteArray) (i : Int) ≤ 8 ∧ (i : Int) < 2 ^ (bt (⟨#[0, 1, 2, 2, 3, 3, 3, 3, 4, 4, 4, 4, 4, 4, 4, 4, 5, 5, 5, 5, 5, 5, 5, 5, 5, 5, 5, 5, 5, 5, 5, 5, 6, 6, 6, 6, 6, 6, 6, 6, 6, 6, 6, 6, 6, 6, 6, 6, 6, 6, 6, 6, 6, 6, 6, 6, 6, 6, 6, 6, 6, 6, 6, 6, 7, 7, 7, 7, 7, 7, 7, 7, 7, 7, 7, 7, 7, 7, 7, 7, 7, 7, 7, 7, 7, 7, 7, 7, 7, 7, 7, 7, 7, 7, 7, 7, 7, 7, 7, 7, 7, 7, 7, 7, 7, 7, 7, 7, 7, 7, 7, 7, 7, 7, 7, 7, 7, 7, 7, 7, 7, 7, 7, 7, 7, 7, 7, 7, 8, 8, 8, 8, 8, 8, 8, 8, 8, 8, 8, 8, 8, 8, 8, 8, 8, 8, 8, 8, 8, 8, 8, 8, 8, 8, 8, 8, 8, 8, 8, 8, 8, 8, 8, 8, 8, 8, 8, 8, 8, 8, 8, 8, 8, 8, 8, 8, 8, 8, 8, 8, 8, 8, 8, 8, 8, 8, 8, 8, 8, 8, 8, 8, 8, 8, 8, 8, 8, 8, 8, 8, 8, 8, 8, 8, 8, 8, 8, 8, 8, 8, 8, 8, 8, 8, 8, 8, 8, 8, 8, 8, 8, 8, 8, 8, 8, 8, 8, 8, 8, 8, 8, 8, 8, 8, 8, 8, 8, 8, 8, 8, 8, 8, 8, 8, 8, 8, 8, 8, 8, 8, 8, 8, 8, 8, 8, 8]⟩ : ByteArray) (i : Int)).toNat ∧ (0 < (i : Int) → 2 ^ (bt (⟨#[0, 1, 2, 2, 3, 3, 3, 3, 4, 4, 4, 4, 4, 4, 4, 4, 5, 5, 5, 5, 5, 5, 5, 5, 5, 5, 5, 5, 5, 5, 5, 5, 6, 6, 6, 6, 6, 6, 6, 6, 6, 6, 6, 6, 6, 6, 6, 6, 6, 6, 6, 6, 6, 6, 6, 6, 6, 6, 6, 6, 6, 6, 6, 6, 7, 7, 7, 7, 7, 7, 7, 7, 7, 7, 7, 7, 7, 7, 7, 7, 7, 7, 7, 7, 7, 7, 7, 7, 7, 7, 7, 7, 7, 7, 7, 7, 7, 7, 7, 7, 7, 7, 7, 7, 7, 7, 7, 7, 7, 7, 7, 7, 7, 7, 7, 7, 7, 7, 7, 7, 7, 7, 7, 7, 7, 7, 7, 7, 8, 8, 8, 8, 8, 8, 8, 8, 8, 8, 8, 8, 8, 8, 8, 8, 8, 8, 8, 8, 8, 8, 8, 8, 8, 8, 8, 8, 8, 8, 8, 8, 8, 8, 8, 8, 8, 8, 8, 8, 8, 8, 8, 8, 8, 8, 8, 8, 8, 8, 8, 8, 8, 8, 8, 8, 8, 8, 8, 8, 8, 8, 8, 8, 8, 8, 8, 8, 8, 8, 8, 8, 8, 8, 8, 8, 8, 8, 8, 8, 8, 8, 8, 8, 8, 8, 8, 8, 8, 8, 8, 8, 8, 8, 8, 8, 8, 8, 8, 8, 8, 8, 8, 8, 8, 8, 8, 8, 8, 8, 8, 8, 8, 8, 8, 8, 8, 8, 8, 8, 8, 8, 8, 8, 8, 8, 8, 8]⟩ : ByteArray) (i : Int)).toNat ≤ 2 * (i : Int)))) = true := by decide +kernel
theorem tab_spec (y : Int) (h0 : 0 ≤ y) (h1 : y < 256) : ∃ n : Nat, bt (⟨#[0, 1, 2, 2, 3, 3, 3, 3, 4, 4, 4, 4, 4, 4, 4, 4, 5, 5, 5, 5, 5, 5, 5, 5, 5, 5, 5, 5, 5, 5, 5, 5, 6, 6, 6, 6, 6, 6, 6, 6, 6, 6, 6, 6, 6, 6, 6, 6, 6, 6, 6, 6, 6, 6, 6, 6, 6, 6, 6, 6, 6, 6, 6, 6, 7, 7, 7, 7, 7, 7, 7, 7, 7, 7, 7, 7, 7, 7, 7, 7, 7, 7, 7, 7, 7, 7, 7, 7, 7, 7, 7, 7, 7, 7, 7, 7, 7, 7, 7, 7, 7, 7, 7, 7, 7, 7, 7, 7, 7, 7, 7, 7, 7, 7, 7, 7, 7, 7, 7, 7, 7, 7, 7, 7, 7, 7, 7, 7, 8, 8, 8, 8, 8, 8, 8, 8, 8, 8, 8, 8, 8, 8, 8, 8, 8, 8, 8, 8, 8, 8, 8, 8, 8, 8, 8, 8, 8, 8, 8, 8, 8, 8, 8, 8, 8, 8, 8, 8, 8, 8, 8, 8, 8, 8, 8, 8, 8, 8, 8, 8, 8, 8, 8, 8, 8, 8, 8, 8, 8, 8, 8, 8, 8, 8, 8, 8, 8, 8, 8, 8, 8, 8, 8, 8, 8, 8, 8, 8, 8, 8, 8, 8, 8, 8, 8, 8, 8, 8, 8, 8, 8, 8, 8, 8, 8, 8, 8, 8, 8, 8, 8, 8, 8, 8, 8, 8, 8, 8, 8, 8, 8, 8, 8, 8, 8, 8, 8, 8, 8, 8, 8, 8, 8, 8, 8, 8]⟩ : ByteArray) y = n ∧ n ≤ 8 ∧ y < 2 ^ n ∧ (0 < y → 2 ^ n ≤ 2 * y) := by
  obtain ⟨i, rfl⟩ := Int.eq_ofNat_of_zero_le h0
  have h := List.all_eq_true.mp tab_all i (List.mem_range.mpr (by omega))
  obtain ⟨g0, g1, g2, g3⟩ := of_decide_eq_true h
  generalize bt (⟨#[0, 1, 2, 2, 3, 3, 3, 3, 4, 4, 4, 4, 4, 4, 4, 4, 5, 5, 5, 5, 5, 5, 5, 5, 5, 5, 5, 5, 5, 5, 5, 5, 6, 6, 6, 6, 6, 6, 6, 6, 6, 6, 6, 6, 6, 6, 6, 6, 6, 6, 6, 6, 6, 6, 6, 6, 6, 6, 6, 6, 6, 6, 6, 6, 7, 7, 7, 7, 7, 7, 7, 7, 7, 7, 7, 7, 7, 7, 7, 7, 7, 7, 7, 7, 7, 7, 7, 7, 7, 7, 7, 7, 7, 7, 7, 7, 7, 7, 7, 7, 7, 7, 7, 7, 7, 7, 7, 7, 7, 7, 7, 7, 7, 7, 7, 7, 7, 7, 7, 7, 7, 7, 7, 7, 7, 7, 7, 7, 8, 8, 8, 8, 8, 8, 8, 8, 8, 8, 8, 8, 8, 8, 8, 8, 8, 8, 8, 8, 8, 8, 8, 8, 8, 8, 8, 8, 8, 8, 8, 8, 8, 8, 8, 8, 8, 8, 8, 8, 8, 8, 8, 8, 8, 8, 8, 8, 8, 8, 8, 8, 8, 8, 8, 8, 8, 8, 8, 8, 8, 8, 8, 8, 8, 8, 8, 8, 8, 8, 8, 8, 8, 8, 8, 8, 8, 8, 8, 8, 8, 8, 8, 8, 8, 8, 8, 8, 8, 8, 8, 8, 8, 8, 8, 8, 8, 8, 8, 8, 8, 8, 8, 8, 8, 8, 8, 8, 8, 8, 8, 8, 8, 8, 8, 8, 8, 8, 8, 8, 8, 8, 8, 8, 8, 8, 8, 8]⟩ : ByteArray) (i : Int) = b at *
  obtain ⟨n, rfl⟩ := Int.eq_ofNat_of_zero_le g0
  exact ⟨n, rfl, by omega, g2, g3⟩

/-- n is the number of bits of a. -/
def IsLen (a : Int) (n : Nat) : Prop := a < 2 ^ n ∧ (0 < a → 2 ^ n ≤ 2 * a)
theorem isLen_shift {a : Int} {c n : Nat} (h : IsLen (a / 2 ^ c) n) (hp : 0 < a / 2 ^ c) : IsLen a (c + n) := by
  obtain ⟨h1, h2⟩ := h
  have h2 := h2 hp
  have hc : (0 : Int) < 2 ^ c := Int.pow_pos (by omega)
  unfold IsLen
  rw [Int.pow_add, Int.mul_comm]
  refine ⟨?_, fun _ => ?_⟩
  · have := Int.lt_mul_of_ediv_lt hc h1
    exact this
  · have e := Int.mul_le_mul_of_nonneg_right h2 (Int.le_of_lt hc)
    have := Int.ediv_mul_le a (b := 2 ^ c) (by omega)
    generalize a / 2 ^ c = q at *
    rw [Int.mul_assoc] at e
    omega

set_option maxRecDepth 20000 in
theorem len_j1 (k : Nat) (x : Int) (c : Nat) (h0 : 0 ≤ x) (h1 : x < 65536) (hc : c ≤ 48) : ∃ n : Nat, bits_Len64.j1 (k + 1) x c = some ((c : Int) + n) ∧ n ≤ 16 ∧ IsLen x n := by
  rw [bits_Len64.j1]
  by_cases hx : x ≥ 256
  · rw [if_pos hx, if_pos (by omega), if_pos (by omega)]
    have e : x / 256 % 256 = x / 256 := by omega
    rw [e]
    obtain ⟨n, e1, e2, e3, e4⟩ := tab_spec (x / 256) (by omega) (by omega)
    rw [e1]
    refine ⟨8 + n, ?_, by omega, ?_⟩
    · congr 1
      rw [w64_id (x := (c : Int) + 8) (by omega) (by omega), w64_id (x := (n : Int)) (by omega) (by omega), w64_id (by omega) (by omega)]
      omega
    · exact isLen_shift (c := 8) ⟨by simpa using e3, fun _ => by simpa using e4 (by omega)⟩ (by simp; omega)
  · rw [if_neg hx, if_pos (by omega), if_pos (by omega)]
    have e : x % 256 = x := by omega
    rw [e]
    obtain ⟨n, e1, e2, e3, e4⟩ := tab_spec x (by omega) (by omega)
    rw [e1]
    refine ⟨n, ?_, by omega, ⟨e3, e4⟩⟩
    congr 1
    rw [w64_id (x := (n : Int)) (by omega) (by omega), w64_id (by omega) (by omega)]

theorem len_j0 (k : Nat) (x : Int) (c : Nat) (h0 : 0 ≤ x) (h1 : x < 4294967296) (hc : c ≤ 32) : ∃ n : Nat, bits_Len64.j0 (k + 2) x c = some ((c : Int) + n) ∧ n ≤ 32 ∧ IsLen x n := by
  simp only [bits_Len64.j0]
  by_cases hx : x ≥ 65536
  · rw [if_pos hx, w64_id (x := (c : Int) + 16) (by omega) (by omega)]
    obtain ⟨n, e1, e2, e3⟩ := len_j1 k (x / 65536) (c + 16) (by omega) (by omega) (by omega)
    refine ⟨16 + n, ?_, by omega, ?_⟩
    · rw [show ((c : Int) + 16) = ((c + 16 : Nat) : Int) by omega, e1]
      congr 1; omega
    · exact isLen_shift (c := 16) (by simpa using e3) (by simp; omega)
  · rw [if_neg hx]
    obtain ⟨n, e1, e2, e3⟩ := len_j1 k x c (by omega) (by omega) (by omega)
    exact ⟨n, e1, by omega, e3⟩

theorem len64 (k : Nat) (x : Int) (h0 : 0 ≤ x) (h1 : x < 18446744073709551616) : ∃ n : Nat, bits_Len64.f (k + 2) x = some (n : Int) ∧ n ≤ 64 ∧ IsLen x n := by
  unfold bits_Len64.f
  by_cases hx : x ≥ 4294967296
  · rw [if_pos hx]
    obtain ⟨n, e1, e2, e3⟩ := len_j0 k (x / 4294967296) 32 (by omega) (by omega) (by omega)
    refine ⟨32 + n, ?_, by omega, ?_⟩
    · have e1 : bits_Len64.j0 (k + 2) (x / 4294967296) 32 = some (32 + (n : Int)) := e1
      rw [e1]
      congr 1
    · exact isLen_shift (c := 32) (by simpa using e3) (by simp; omega)
  · rw [if_neg hx]
    obtain ⟨n, e1, e2, e3⟩ := len_j0 k x 0 (by omega) (by omega) (by omega)
    have e1 : bits_Len64.j0 (k + 2) x 0 = some (0 + (n : Int)) := e1
    refine ⟨n, by rw [e1]; congr 1; omega, by omega, e3⟩

end Go.Proofs.Ytdmhdbebjjhopaa.PA
