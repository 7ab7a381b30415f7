/- By hand: the law of the unbiased score. -/
import Derived.Test.YtdmhdbebjjhopaaL7a
import Derived.Test.YtdmhdbebjjhopaaL7b
import Derived.Test.YtdmhdbebjjhopaaA7
import Derived.Test.YtdmhdbebjjhopaaA8
import Derived.Test.YtdmhdbebjjhopaaCB
import Derived.RegionTactic
import Derived.Deep.RegionHeld3
import Derived.Deep.DeepCutAuto
namespace Go.Proofs.Ytdmhdbebjjhopaa.PA
open Go Go.RowKit Go.Proofs.YtdmhdbebjjhopaaW.PrintWords Go.Proofs.YtdmhdbebjjhopaaW.PrintLast Go.Proofs.YtdmhdbebjjhopaaW.PrintMore Go.Proofs.Ytdmhdbebjjhopaa.M
set_option linter.unusedVariables false
set_option linter.unusedSimpArgs false

set_option maxHeartbeats 40000000 in
set_option maxRecDepth 100000 in
theorem unbiased_calls (A0 : Option Addr) (c0 : Nat) (l0 : List Int) (a1 a2 a3 a4 : Int) (a5 : Bool) (w : World)
    (hr0 : Kd.C (Kd.int .u8) w A0 l0.length l0) (hc0 : l0.length ≤ c0) (hl : ∀ x ∈ l0, 0 ≤ x ∧ x ≤ 255) (h1 : 0 ≤ a1 ∧ a1 ≤ 255) (h2 : 0 ≤ a2 ∧ a2 ≤ 255) (h3 : 0 ≤ a3 ∧ a3 ≤ 65535) (h4 : 0 ≤ a4 ∧ a4 ≤ 65535) :
    Calls Try.prog 7 #[.slice A0 l0.length c0, .int .u8 a1, .int .u8 a2, .int .u16 a3, .int .u16 a4, .bool a5] w fun e w' => e = .returned (.bool true) ∧ Below w.heap.size w w' := by
  have hu34 := Try.underlying34
  have hu32 := Try.underlying32
  have hu42 := Try.underlying42
  have hu37 := Try.underlying37
  obtain ⟨k0, hk0⟩ := awake39_is
  have HA := Aside0.mk (hk0 k0 (Nat.le_refl _))
  have HR0 := Aside0.mk hr0
  have HC0 := Aside0.mk hc0
  have HL := Aside0.mk hl
  have H1 := Aside0.mk h1
  have H2 := Aside0.mk h2
  have H3 := Aside0.mk h3
  have H4 := Aside0.mk h4
  clear hr0 hc0 hl hk0 h1 h2 h3 h4
  by_cases n2 : l0.length > 200
  · have d1 : decide ((200 : Int) < (l0.length : Int)) = true := decide_eq_true (by omega)
    clear n2
    go_enter Try.func7, Try.ntmps7
    go_wp2_with (first
      | (go_at_call 11; refine (flagstonelaw39_awake.calls k0 true w HA.out).mono ?_; rintro e1 w1 ⟨rfl, hB1⟩; have HB1 := Aside0.mk hB1; clear hB1)
      | go_in)
    go_ret
    exact ⟨rfl, HB1.out⟩
  · have N1 : Aside0 (l0.length ≤ 200) := ⟨by omega⟩
    have d1 : decide ((200 : Int) < (l0.length : Int)) = false := decide_eq_false (by omega)
    clear n2
    obtain ⟨S, ⟨k1, hk1⟩, hS1, hS2⟩ := samples_are l0 HL.out (by have := N1.out; omega) 255 (by decide) (by decide)
    have HS := Aside0.mk (hk1 k1 (Nat.le_refl _))
    have NS := Aside0.mk hS1
    have WS := Aside0.mk hS2
    clear hk1 hS1 hS2
    go_enter Try.func7, Try.ntmps7
    go_upto_region 11 with (first
      | (go_at_call 11; refine (flagstonelaw39_awake.calls k0 true w HA.out).mono ?_; rintro e1 w1 ⟨rfl, hB1⟩; have HB1 := Aside0.mk hB1; clear hB1)
      | (go_at_call 12; refine (flagstonedata_Samples.calls k1 A0 c0 l0 255 S w1 (Kd.C_below HR0.out HB1.out) HC0.out HS.out).mono ?_; rintro e2 w2 ⟨v2, rfl, hR2, hB2⟩; obtain ⟨As, cs, rfl, hcs, hCs⟩ := Kd.R_reads hR2; have Hcs := Aside0.mk hcs; have HCs := Aside0.mk hCs; have HB2 := Aside0.mk (below_step HB1.out hB2); clear hB2 hR2 hcs hCs)
      | go_in)
    obtain ⟨C, hC⟩ : ∃ C : Int, C = wrap64 (1 + (wrap64 a3).tmod 10000) := ⟨_, rfl⟩
    obtain ⟨T, hT⟩ : ∃ T : Int, T = wrap64 (1 + (wrap64 a4).tmod 10000) := ⟨_, rfl⟩
    obtain ⟨y1, hy1⟩ : ∃ y : Int, y = wrap64 a1 := ⟨_, rfl⟩
    obtain ⟨y2, hy2⟩ : ∃ y : Int, y = wrap64 a2 := ⟨_, rfl⟩
    rw [← hy2, ← hy1, ← hC, ← hT]
    obtain ⟨b2, hb2⟩ : ∃ b : Int, b = y2.tmod 5 := ⟨_, rfl⟩
    rw [← hb2]
    have EC := Aside0.mk hC
    have ET := Aside0.mk hT
    have E1 := Aside0.mk hy1
    have E2 := Aside0.mk hy2
    have E5 := Aside0.mk hb2
    clear hC hT hy1 hy2 hb2
    have bX := blk_alloc (blk_alloc (blk_new w2 (.cells #[.string ⟨#[]⟩, .string ⟨#[]⟩, .int .i64 0, .int .i64 0, .int .i64 1, .int .i64 0, .int .i64 y1, .int .i64 0, .int .i64 b2, .bool false] 34)) (.cells #[.string ⟨#[]⟩, .string ⟨#[]⟩, .int .i64 0, .int .i64 0, .int .i64 2, .int .i64 0, .int .i64 y2, .int .i64 0, .int .i64 b2, .bool false] 34)) (.cells #[.int .i64 0, .int .i64 C, .int .i64 T] 42)
    have bY := blk_alloc (blk_new (w2.alloc (.cells #[.string ⟨#[]⟩, .string ⟨#[]⟩, .int .i64 0, .int .i64 0, .int .i64 1, .int .i64 0, .int .i64 y1, .int .i64 0, .int .i64 b2, .bool false] 34)) (.cells #[.string ⟨#[]⟩, .string ⟨#[]⟩, .int .i64 0, .int .i64 0, .int .i64 2, .int .i64 0, .int .i64 y2, .int .i64 0, .int .i64 b2, .bool false] 34)) (.cells #[.int .i64 0, .int .i64 C, .int .i64 T] 42)
    have bW := blk_new ((w2.alloc (.cells #[.string ⟨#[]⟩, .string ⟨#[]⟩, .int .i64 0, .int .i64 0, .int .i64 1, .int .i64 0, .int .i64 y1, .int .i64 0, .int .i64 b2, .bool false] 34)).alloc (.cells #[.string ⟨#[]⟩, .string ⟨#[]⟩, .int .i64 0, .int .i64 0, .int .i64 2, .int .i64 0, .int .i64 y2, .int .i64 0, .int .i64 b2, .bool false] 34)) (.cells #[.int .i64 0, .int .i64 C, .int .i64 T] 42)
    have sz : ∀ (X : World) (o : Obj), (X.alloc o).heap.size = X.heap.size + 1 := fun X o => by simp
    rw [sz] at bY
    rw [sz, sz] at bW
    have hB3 : Below w2.heap.size w2 (((w2.alloc (.cells #[.string ⟨#[]⟩, .string ⟨#[]⟩, .int .i64 0, .int .i64 0, .int .i64 1, .int .i64 0, .int .i64 y1, .int .i64 0, .int .i64 b2, .bool false] 34)).alloc (.cells #[.string ⟨#[]⟩, .string ⟨#[]⟩, .int .i64 0, .int .i64 0, .int .i64 2, .int .i64 0, .int .i64 y2, .int .i64 0, .int .i64 b2, .bool false] 34)).alloc (.cells #[.int .i64 0, .int .i64 C, .int .i64 T] 42)) := below_alloc (below_alloc (below_alloc (Below.refl _ _) _) _) _
    generalize (((w2.alloc (.cells #[.string ⟨#[]⟩, .string ⟨#[]⟩, .int .i64 0, .int .i64 0, .int .i64 1, .int .i64 0, .int .i64 y1, .int .i64 0, .int .i64 b2, .bool false] 34)).alloc (.cells #[.string ⟨#[]⟩, .string ⟨#[]⟩, .int .i64 0, .int .i64 0, .int .i64 2, .int .i64 0, .int .i64 y2, .int .i64 0, .int .i64 b2, .bool false] 34)).alloc (.cells #[.int .i64 0, .int .i64 C, .int .i64 T] 42)) = W0 at bX bY bW hB3 ⊢
    generalize w2.heap.size + 1 + 1 = gw at bW ⊢
    generalize w2.heap.size + 1 = gy at bY ⊢
    generalize hgx : w2.heap.size = gx at bX ⊢
    have HS3 := Aside0.mk (Kd.C_below HCs.out hB3)
    have HB3 := Aside0.mk (below_step HB2.out hB3)
    have BX := Aside0.mk bX
    have BY := Aside0.mk bY
    have BW := Aside0.mk bW
    clear bX bY bW hB3 hgx sz HCs HB2 HB1 HA HR0 HC0 HL HS N1 d1
    have CT : Aside0 (1 ≤ C ∧ C ≤ 10000 ∧ 1 ≤ T ∧ T ≤ 10000) := ⟨by
      have h3 := H3.out
      have h4 := H4.out
      rw [EC.out, ET.out, w64_id (x := a3) (by omega) (by omega), w64_id (x := a4) (by omega) (by omega), Int.tmod_eq_emod_of_nonneg h3.1, Int.tmod_eq_emod_of_nonneg h4.1, w64_id (by omega) (by omega), w64_id (by omega) (by omega)]
      omega⟩
    have e1 : y1 = a1 := by rw [E1.out]; have := H1.out; exact w64_id (by omega) (by omega)
    have e2 : y2 = a2 := by rw [E2.out]; have := H2.out; exact w64_id (by omega) (by omega)
    have YZ : Aside0 (0 ≤ y1 ∧ y1 ≤ 255 ∧ 0 ≤ y2 ∧ y2 ≤ 255) := ⟨by
      have h1 := H1.out
      have h2 := H2.out
      omega⟩
    obtain ⟨n, m, u, r, on, om, hu, hsum, u1, ur, hr, r1, n0, n1, m0, m1⟩ := both_last (adj := a5) (c := C) (t := T) (cap := 255) (x := ⟨⟨⟨#[]⟩, ⟨#[]⟩, 0, 0, 1, 0⟩, y1, 0, b2, false⟩) (y := ⟨⟨⟨#[]⟩, ⟨#[]⟩, 0, 0, 2, 0⟩, y2, 0, b2, false⟩) (by have := NS.out; omega) WS.out ⟨YZ.out.1, YZ.out.2.1⟩ ⟨YZ.out.2.2.1, YZ.out.2.2.2⟩ rfl rfl rfl CT.out.1 CT.out.2.1 CT.out.2.2.1 CT.out.2.2.2 (by decide) (by decide)
    obtain ⟨q1, f1⟩ := Of_is (S ++ [⟨⟨⟨#[]⟩, ⟨#[]⟩, 0, 0, 1, 0⟩, y1, 0, b2, false⟩]) (S.length : Int) 0 C T 255 a5 (by have := NS.out; simp; omega)
    obtain ⟨q2, f2⟩ := Of_is (S ++ [⟨⟨⟨#[]⟩, ⟨#[]⟩, 0, 0, 2, 0⟩, y2, 0, b2, false⟩]) (S.length : Int) 0 C T 255 a5 (by have := NS.out; simp; omega)
    rw [on] at f1
    rw [om] at f2
    have O1 := Aside0.mk (f1 q1 (Nat.le_refl _))
    have O2 := Aside0.mk (f2 q2 (Nat.le_refl _))
    have V1 := Aside0.mk (valid_true u1 ur r1 n0 n1)
    have V2 := Aside0.mk (valid_true u1 ur r1 m0 m1)
    have TU : Aside0 (u = wrap64 (wrap64 (C * T) * 255)) := ⟨by
      have b := parts_in CT.out.1 CT.out.2.1 CT.out.2.2.1 CT.out.2.2.2 (show (1 : Int) ≤ 255 by decide) (by decide)
      rw [w64_id (x := C * T) (by omega) (by omega), w64_id (by omega) (by omega)]
      exact hu⟩
    have TS : Aside0 (wrap64 (wrap64 (C * n) + wrap64 (T * m)) = wrap64 (wrap64 (wrap64 (C * T) * wrap64 (C + T)) * wrap64 (wrap64 a2 - wrap64 a1))) := ⟨by
      have ct := CT.out
      have yz := YZ.out
      have b := parts_in CT.out.1 CT.out.2.1 CT.out.2.2.1 CT.out.2.2.2 (show (1 : Int) ≤ 255 by decide) (by decide)
      have hb : r ≤ 419430400000000 := by rw [hr]; exact b.2.2.2.2.2.2.2
      have k1 : C * n ≤ 10000 * 419430400000000 := Int.le_trans (Int.mul_le_mul_of_nonneg_left (show n ≤ 419430400000000 by omega) (by omega)) (Int.mul_le_mul_of_nonneg_right ct.2.1 (by omega))
      have k2 : C * (-n) ≤ 10000 * 419430400000000 := Int.le_trans (Int.mul_le_mul_of_nonneg_left (show -n ≤ 419430400000000 by omega) (by omega)) (Int.mul_le_mul_of_nonneg_right ct.2.1 (by omega))
      have k3 : T * m ≤ 10000 * 419430400000000 := Int.le_trans (Int.mul_le_mul_of_nonneg_left (show m ≤ 419430400000000 by omega) (by omega)) (Int.mul_le_mul_of_nonneg_right ct.2.2.2 (by omega))
      have k4 : T * (-m) ≤ 10000 * 419430400000000 := Int.le_trans (Int.mul_le_mul_of_nonneg_left (show -m ≤ 419430400000000 by omega) (by omega)) (Int.mul_le_mul_of_nonneg_right ct.2.2.2 (by omega))
      rw [Int.mul_neg] at k2 k4
      have p1 := mul_le (x := C * T) (y := C + T) (a := 100000000) (b := 20000) (by omega) (by omega) (by omega) (by omega)
      have p2 : C * T * (C + T) * (y2 - y1) ≤ C * T * (C + T) * 255 := Int.mul_le_mul_of_nonneg_left (by omega) p1.1
      have p3 : C * T * (C + T) * (-(y2 - y1)) ≤ C * T * (C + T) * 255 := Int.mul_le_mul_of_nonneg_left (by omega) p1.1
      rw [Int.mul_neg] at p3
      simp only at hsum
      rw [w64_id (x := a2) (by omega) (by omega), w64_id (x := a1) (by omega) (by omega), ← e1, ← e2]
      rw [w64_id (x := C * n) (by omega) (by omega), w64_id (x := T * m) (by omega) (by omega), w64_id (x := C * T) (by omega) (by omega), w64_id (x := C + T) (by omega) (by omega), w64_id (x := y2 - y1) (by omega) (by omega), w64_id (x := C * T * (C + T)) (by omega) (by omega), w64_id (x := C * n + T * m) (by omega) (by omega), w64_id (x := C * T * (C + T) * (y2 - y1)) (by omega) (by omega)]
      exact hsum⟩
    clear f1 f2 on om hu hsum u1 ur hr r1 n0 n1 m0 m1 e1 e2 EC ET E1 E2 E5 H1 H2 H3 H4 CT YZ
    go_cut [20, 21] (fun sp so wc => ∃ g : Nat, sp = .pointer (some ⟨g, 0, none⟩) ∧ so = .bool true ∧ Aside0 (wc.heap[g]? = some (.cells #[.int .i64 n, .int .i64 u, .int .i64 r] 37 (0, 0))) ∧ Aside0 (Below W0.heap.size W0 wc))
    case first =>
      exact region11_first NS Hcs HS3 BW BX O1 (by assumption) (by assumption)
    case rest =>
      obtain ⟨g1, rfl, rfl, HG1, HBc⟩ := hcut
      obtain ⟨W1, hW1⟩ : ∃ W1 : World, W1 = wc := ⟨_, rfl⟩
      subst hW1
      have HS4 := Aside0.mk (Kd.C_below HS3.out HBc.out)
      have BW4 := Aside0.mk (CA.blk_below HBc.out BW.out)
      have BY4 := Aside0.mk (CA.blk_below HBc.out BY.out)
      have HB4 := Aside0.mk (below_step HB3.out HBc.out)
      clear HS3 BW BX BY HBc HB3
      go_upto_region 12 with (go_in)
      go_cut [22, 23] (fun sp so wc => ∃ g : Nat, sp = .pointer (some ⟨g, 0, none⟩) ∧ so = .bool true ∧ Aside0 (wc.heap[g]? = some (.cells #[.int .i64 m, .int .i64 u, .int .i64 r] 37 (0, 0))) ∧ Aside0 (Below W1.heap.size W1 wc))
      case first =>
        exact region12_first (y1 := 0) NS Hcs HS4 BW4 BY4 O2 (by assumption) (by assumption)
      case rest =>
        obtain ⟨g2, rfl, rfl, HG2, HBd⟩ := hcut
        obtain ⟨W2, hW2⟩ : ∃ W2 : World, W2 = wc := ⟨_, rfl⟩
        subst hW2
        have HG3 := CA.blk_below HBd.out HG1.out
        have HB5 := Aside0.mk (below_step HB4.out HBd.out)
        have p0 : W2.cell? ⟨g1, 0, none⟩ = some (.int .i64 n) := (blk_cell HG3 0).trans rfl
        have p1 : W2.cell? ⟨g1, 1, none⟩ = some (.int .i64 u) := (blk_cell HG3 1).trans rfl
        have p2 : W2.cell? ⟨g1, 2, none⟩ = some (.int .i64 r) := (blk_cell HG3 2).trans rfl
        have p3 : W2.cell? ⟨g2, 0, none⟩ = some (.int .i64 m) := (blk_cell HG2.out 0).trans rfl
        have p4 : W2.cell? ⟨g2, 1, none⟩ = some (.int .i64 u) := (blk_cell HG2.out 1).trans rfl
        have p5 : W2.cell? ⟨g2, 2, none⟩ = some (.int .i64 r) := (blk_cell HG2.out 2).trans rfl
        clear HS4 BW4 BY4 HBd HB4 HG3 HG1
        have tu1 : (u == wrap64 (wrap64 (C * T) * 255)) = true := beq_iff_eq.mpr TU.out
        have tu2 : decide (u = wrap64 (wrap64 (C * T) * 255)) = true := decide_eq_true TU.out
        have ts1 : (wrap64 (wrap64 (C * n) + wrap64 (T * m)) == wrap64 (wrap64 (wrap64 (C * T) * wrap64 (C + T)) * wrap64 (wrap64 a2 - wrap64 a1))) = true := beq_iff_eq.mpr TS.out
        have ts2 : decide (wrap64 (wrap64 (C * n) + wrap64 (T * m)) = wrap64 (wrap64 (wrap64 (C * T) * wrap64 (C + T)) * wrap64 (wrap64 a2 - wrap64 a1))) = true := decide_eq_true TS.out
        go_wp2_with (first
          | (go_at_call 17; refine (score_Valid.calls n u r true _ V1.out).mono ?_; rintro e8 w8 ⟨rfl, hB8⟩; have HB8 := Aside0.mk hB8; have p6 := pw_cell_below hB8 p3; have p7 := pw_cell_below hB8 p4; have p8 := pw_cell_below hB8 p5; clear hB8 V1)
          | (go_at_call 17; refine (score_Valid.calls m u r true _ V2.out).mono ?_; rintro e9 w9 ⟨rfl, hB9⟩; have HB9 := Aside0.mk hB9; clear hB9)
          | go_in)
        go_ret
        exact ⟨rfl, below_step (below_step HB5.out HB8.out) HB9.out⟩
end Go.Proofs.Ytdmhdbebjjhopaa.PA
