/- For a subject that may be in either arm, the wealth against the true effect does not grow on average. -/
import Derived.Test.YtafcnpfhihnmgaaU1
import Derived.Test.YtafcnpfhihnmgaaM4
namespace Go.Proofs.Ytafcnpfhihnmgaa.PA
open Go Go.RowKit Go.Proofs.YtafcnpfhihnmgaaW.PrintWords Go.Proofs.YtafcnpfhihnmgaaW.PrintLast Go.Proofs.YtafcnpfhihnmgaaW.PrintMore Go.Proofs.Ytafcnpfhihnmgaa.M
set_option linter.unusedVariables false
set_option linter.unusedSimpArgs false

theorem grow_plain {n d : Int} (h0 : 0 ≤ n) (hd : 1 ≤ d) (hd1 : d ≤ 4611686018427387904) (h1 : n ≤ 2 * d) : growS 4398046511104 n d = 4398046511104 * n / d ∧ 0 ≤ 4398046511104 * n / d ∧ 4398046511104 * n / d ≤ 8796093022208 ∧ d * (4398046511104 * n / d) ≤ 4398046511104 * n := by
  have a0 : 0 ≤ 4398046511104 * n / d := Int.ediv_nonneg (by omega) (by omega)
  have a1 : 4398046511104 * n / d ≤ 8796093022208 := by
    have : 4398046511104 * n / d < 8796093022208 + 1 := by
      rw [Int.ediv_lt_iff_lt_mul (by omega)]
      omega
    omega
  have a2 : d * (4398046511104 * n / d) ≤ 4398046511104 * n := Int.mul_ediv_self_le (by omega)
  refine ⟨?_, a0, a1, a2⟩
  unfold growS
  rw [if_neg (by omega), if_pos (by omega)]
theorem subjects_fair {n m u r c t y z b : Int} {up : Bool} (hu : u = c * t * 250) (hsum : c * n + t * m = c * t * (c + t) * (z - y)) (u1 : 1 ≤ u) (ur : u ≤ r) (r1 : r ≤ 562949953421312) (n0 : u - r ≤ n) (n1 : n ≤ r - u) (m0 : u - r ≤ m) (m1 : m ≤ r - u)
    (c0 : 1 ≤ c) (c1 : c ≤ 60) (t0 : 1 ≤ t) (t1 : t ≤ 60) (y0 : 0 ≤ y) (y1 : y ≤ 250) (z0 : 0 ≤ z) (z1 : z ≤ 250) (b0 : 0 ≤ b) (b1 : b ≤ 4) :
    ∃ nn mm : Int, factorS n u r ((z - y) * 4) b up = (nn, 8000 * r) ∧ factorS m u r ((z - y) * 4) b up = (mm, 8000 * r) ∧ nn ≤ 9223372036854775807 ∧ mm ≤ 9223372036854775807 ∧
      c * growS 4398046511104 nn (8000 * r) + t * growS 4398046511104 mm (8000 * r) ≤ (c + t) * 4398046511104 ∧ 0 ≤ growS 4398046511104 nn (8000 * r) ∧ growS 4398046511104 nn (8000 * r) ≤ 8796093022208 ∧ 0 ≤ growS 4398046511104 mm (8000 * r) ∧ growS 4398046511104 mm (8000 * r) ≤ 8796093022208 := by
  have vn : validS n u r = true := validS_iff.mpr ⟨u1, ur, r1, n0, n1⟩
  have vm : validS m u r = true := validS_iff.mpr ⟨u1, ur, r1, m0, m1⟩
  obtain ⟨_, _, gn0, gn1, _, _⟩ := gain_bound (e := (z - y) * 4) vn (by omega) (by omega) b0 b1
  obtain ⟨_, _, gm0, gm1, _, _⟩ := gain_bound (e := (z - y) * 4) vm (by omega) (by omega) b0 b1
  have fn : factorS n u r ((z - y) * 4) b up = if up = true then (8000 * r + b * (1000 * n - u * ((z - y) * 4)), 8000 * r) else (8000 * r - b * (1000 * n - u * ((z - y) * 4)), 8000 * r) := by
    unfold factorS
    rw [if_pos ⟨vn, by omega, by omega, b0, b1⟩]
  have fm : factorS m u r ((z - y) * 4) b up = if up = true then (8000 * r + b * (1000 * m - u * ((z - y) * 4)), 8000 * r) else (8000 * r - b * (1000 * m - u * ((z - y) * 4)), 8000 * r) := by
    unfold factorS
    rw [if_pos ⟨vm, by omega, by omega, b0, b1⟩]
  rw [fn, fm]
  clear fn fm
  have hg : c * (b * (1000 * n - u * ((z - y) * 4))) + t * (b * (1000 * m - u * ((z - y) * 4))) = 0 := by
    have e1 : c * (b * (1000 * n - u * ((z - y) * 4))) + t * (b * (1000 * m - u * ((z - y) * 4))) = b * (1000 * (c * n + t * m) - (c + t) * (u * ((z - y) * 4))) := by grind
    rw [e1, hsum, hu]
    grind
  generalize b * (1000 * n - u * ((z - y) * 4)) = gn at *
  generalize b * (1000 * m - u * ((z - y) * 4)) = gm at *
  have main : ∀ nn mm : Int, 4000 * r ≤ nn → nn ≤ 12000 * r → 4000 * r ≤ mm → mm ≤ 12000 * r → c * nn + t * mm = (c + t) * (8000 * r) →
      c * growS 4398046511104 nn (8000 * r) + t * growS 4398046511104 mm (8000 * r) ≤ (c + t) * 4398046511104 ∧ 0 ≤ growS 4398046511104 nn (8000 * r) ∧ growS 4398046511104 nn (8000 * r) ≤ 8796093022208 ∧ 0 ≤ growS 4398046511104 mm (8000 * r) ∧ growS 4398046511104 mm (8000 * r) ≤ 8796093022208 := by
    intro nn mm h1 h2 h3 h4 h5
    obtain ⟨e1, p1, p2, p3⟩ := grow_plain (n := nn) (d := 8000 * r) (by omega) (by omega) (by omega) (by omega)
    obtain ⟨e2, q1, q2, q3⟩ := grow_plain (n := mm) (d := 8000 * r) (by omega) (by omega) (by omega) (by omega)
    rw [e1, e2]
    generalize 4398046511104 * nn / (8000 * r) = a at *
    generalize 4398046511104 * mm / (8000 * r) = d at *
    refine ⟨?_, p1, p2, q1, q2⟩
    have k1 : c * (8000 * r * a) ≤ c * (4398046511104 * nn) := Int.mul_le_mul_of_nonneg_left p3 (by omega)
    have k2 : t * (8000 * r * d) ≤ t * (4398046511104 * mm) := Int.mul_le_mul_of_nonneg_left q3 (by omega)
    have k3 : 8000 * r * (c * a + t * d) ≤ 8000 * r * ((c + t) * 4398046511104) := by
      have e3 : 8000 * r * (c * a + t * d) = c * (8000 * r * a) + t * (8000 * r * d) := by grind
      have e4 : 8000 * r * ((c + t) * 4398046511104) = 4398046511104 * (c * nn + t * mm) := by rw [h5]; grind
      have e5 : c * (4398046511104 * nn) + t * (4398046511104 * mm) = 4398046511104 * (c * nn + t * mm) := by grind
      omega
    exact Int.le_of_mul_le_mul_left k3 (by omega)
  cases up
  · refine ⟨8000 * r - gn, 8000 * r - gm, rfl, rfl, by omega, by omega, main _ _ (by omega) (by omega) (by omega) (by omega) (by grind)⟩
  · refine ⟨8000 * r + gn, 8000 * r + gm, rfl, rfl, by omega, by omega, main _ _ (by omega) (by omega) (by omega) (by omega) (by grind)⟩
end Go.Proofs.Ytafcnpfhihnmgaa.PA
