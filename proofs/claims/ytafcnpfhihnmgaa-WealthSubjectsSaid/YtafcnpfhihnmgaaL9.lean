/- By hand: the law of the wealth for a subject. -/
import Derived.Test.YtafcnpfhihnmgaaL9a
import Derived.Test.YtafcnpfhihnmgaaL9b
import Derived.Test.YtafcnpfhihnmgaaM7w
import Derived.Test.YtafcnpfhihnmgaaCB
import Derived.RegionTactic
import Derived.Deep.RegionHeld3
import Derived.Deep.DeepCutAuto
namespace Go.Proofs.Ytafcnpfhihnmgaa.PA
open Go Go.RowKit Go.Proofs.YtafcnpfhihnmgaaW.PrintWords Go.Proofs.YtafcnpfhihnmgaaW.PrintLast Go.Proofs.YtafcnpfhihnmgaaW.PrintMore Go.Proofs.Ytafcnpfhihnmgaa.M
set_option linter.unusedVariables false
set_option linter.unusedSimpArgs false

set_option maxHeartbeats 40000000 in
set_option maxRecDepth 100000 in
theorem subjects_calls (A0 : Option Addr) (c0 : Nat) (l0 : List Int) (a1 a2 a3 a4 a5 : Int) (a6 a7 : Bool) (w : World)
    (hr0 : Kd.C (Kd.int .u8) w A0 l0.length l0) (hc0 : l0.length ≤ c0) (hl : ∀ x ∈ l0, 0 ≤ x ∧ x ≤ 255) (h1 : 0 ≤ a1 ∧ a1 ≤ 255) (h2 : 0 ≤ a2 ∧ a2 ≤ 255) (h3 : 0 ≤ a3 ∧ a3 ≤ 255) (h4 : 0 ≤ a4 ∧ a4 ≤ 255) (h5 : 0 ≤ a5 ∧ a5 ≤ 255) :
    Calls Try.prog 9 #[.slice A0 l0.length c0, .int .u8 a1, .int .u8 a2, .int .u8 a3, .int .u8 a4, .int .u8 a5, .bool a6, .bool a7] w fun e w' => e = .returned (.bool true) ∧ Below w.heap.size w w' := by
  have hu58 := Try.underlying58
  have hu56 := Try.underlying56
  have hu52 := Try.underlying52
  have hu28 := Try.underlying28
  obtain ⟨k0, hk0⟩ := awake_is
  have HA := Aside0.mk (hk0 k0 (Nat.le_refl _))
  have HR0 := Aside0.mk hr0
  have HC0 := Aside0.mk hc0
  have HL := Aside0.mk hl
  have H1 := Aside0.mk h1
  have H2 := Aside0.mk h2
  have H3 := Aside0.mk h3
  have H4 := Aside0.mk h4
  have H5 := Aside0.mk h5
  clear hr0 hc0 hl hk0 h1 h2 h3 h4 h5
  by_cases n2 : l0.length > 100
  · have d1 : decide ((100 : Int) < (l0.length : Int)) = true := decide_eq_true (by omega)
    clear n2
    go_enter Try.func9, Try.ntmps9
    go_wp2_with (first
      | (go_at_call 10; refine (flagstonelaw40_awake.calls k0 true w HA.out).mono ?_; rintro e1 w1 ⟨rfl, hB1⟩; have HB1 := Aside0.mk hB1; clear hB1)
      | go_in)
    go_ret
    exact ⟨rfl, HB1.out⟩
  · have N1 : Aside0 (l0.length ≤ 100) := ⟨by omega⟩
    have d1 : decide ((100 : Int) < (l0.length : Int)) = false := decide_eq_false (by omega)
    clear n2
    obtain ⟨S, ⟨k1, hk1⟩, hS1, hS2⟩ := samples_are l0 HL.out (by have := N1.out; omega) 250 (by decide) (by decide)
    have HS := Aside0.mk (hk1 k1 (Nat.le_refl _))
    have NS := Aside0.mk hS1
    have WS := Aside0.mk hS2
    clear hk1 hS1 hS2
    go_enter Try.func9, Try.ntmps9
    go_upto_region 9 with (first
      | (go_at_call 10; refine (flagstonelaw40_awake.calls k0 true w HA.out).mono ?_; rintro e1 w1 ⟨rfl, hB1⟩; have HB1 := Aside0.mk hB1; clear hB1)
      | (go_at_call 24; refine (flagstonedata_Samples.calls k1 A0 c0 l0 250 S w1 (Kd.C_below HR0.out HB1.out) HC0.out HS.out).mono ?_; rintro e2 w2 ⟨v2, rfl, hR2, hB2⟩; obtain ⟨As, cs, rfl, hcs, hCs⟩ := Kd.R_reads hR2; have Hcs := Aside0.mk hcs; have HCs := Aside0.mk hCs; have HB2 := Aside0.mk (below_step HB1.out hB2); clear hB2 hR2 hcs hCs)
      | go_in)
    obtain ⟨C, hC⟩ : ∃ C : Int, C = wrap64 (1 + (wrap64 a3).tmod 60) := ⟨_, rfl⟩
    obtain ⟨T, hT⟩ : ∃ T : Int, T = wrap64 (1 + (wrap64 a4).tmod 60) := ⟨_, rfl⟩
    obtain ⟨y, hy⟩ : ∃ y : Int, y = (wrap64 a1).tmod 251 := ⟨_, rfl⟩
    obtain ⟨z, hz⟩ : ∃ y : Int, y = (wrap64 a2).tmod 251 := ⟨_, rfl⟩
    rw [← hz, ← hy, ← hC, ← hT]
    have EC := Aside0.mk hC
    have ET := Aside0.mk hT
    have EY := Aside0.mk hy
    have EZ := Aside0.mk hz
    clear hC hT hy hz
    have bW := blk_new w2 (.cells #[.int .i64 0, .int .i64 C, .int .i64 T] 52)
    have hB3 : Below w2.heap.size w2 (w2.alloc (.cells #[.int .i64 0, .int .i64 C, .int .i64 T] 52)) := below_alloc (Below.refl _ _) _
    generalize w2.alloc (.cells #[.int .i64 0, .int .i64 C, .int .i64 T] 52) = W0 at bW hB3 ⊢
    generalize hgw : w2.heap.size = gw at bW ⊢
    have HS3 := Aside0.mk (Kd.C_below HCs.out hB3)
    have HB3 := Aside0.mk (below_step HB2.out hB3)
    have BW := Aside0.mk bW
    clear bW hB3 hgw HCs HB2 HB1 HA HR0 HC0 HL HS N1 d1
    have CT : Aside0 (1 ≤ C ∧ C ≤ 60 ∧ 1 ≤ T ∧ T ≤ 60) := ⟨by
      have h3 := H3.out
      have h4 := H4.out
      rw [EC.out, ET.out, w64_id (x := a3) (by omega) (by omega), w64_id (x := a4) (by omega) (by omega), Int.tmod_eq_emod_of_nonneg h3.1, Int.tmod_eq_emod_of_nonneg h4.1, w64_id (by omega) (by omega), w64_id (by omega) (by omega)]
      omega⟩
    have YZ : Aside0 (0 ≤ y ∧ y ≤ 250 ∧ 0 ≤ z ∧ z ≤ 250) := ⟨by
      have h1 := H1.out
      have h2 := H2.out
      rw [EY.out, EZ.out, w64_id (x := a1) (by omega) (by omega), w64_id (x := a2) (by omega) (by omega), Int.tmod_eq_emod_of_nonneg h1.1, Int.tmod_eq_emod_of_nonneg h2.1]
      omega⟩
    obtain ⟨n, m, u, r, on, om, hu, hsum, u1, ur, hr, r1, n0, n1, m0, m1⟩ := both_last (adj := a7) (c := C) (t := T) (cap := 250) (x := ⟨⟨⟨#[]⟩, ⟨#[]⟩, 0, 0, 1, 0⟩, y, 0, 0, false⟩) (y := ⟨⟨⟨#[]⟩, ⟨#[]⟩, 0, 0, 2, 0⟩, z, 0, 0, false⟩) (by have := NS.out; omega) WS.out ⟨YZ.out.1, YZ.out.2.1⟩ ⟨YZ.out.2.2.1, YZ.out.2.2.2⟩ rfl rfl rfl CT.out.1 (by have := CT.out; omega) CT.out.2.2.1 (by have := CT.out; omega) (by decide) (by decide)
    obtain ⟨q1, f1⟩ := Of_is (S ++ [⟨⟨⟨#[]⟩, ⟨#[]⟩, 0, 0, 1, 0⟩, y, 0, 0, false⟩]) (S.length : Int) 0 C T 250 a7 (by have := NS.out; simp; omega)
    obtain ⟨q2, f2⟩ := Of_is (S ++ [⟨⟨⟨#[]⟩, ⟨#[]⟩, 0, 0, 2, 0⟩, z, 0, 0, false⟩]) (S.length : Int) 0 C T 250 a7 (by have := NS.out; simp; omega)
    rw [on] at f1
    rw [om] at f2
    have O1 := Aside0.mk (f1 q1 (Nat.le_refl _))
    have O2 := Aside0.mk (f2 q2 (Nat.le_refl _))
    obtain ⟨b, hb⟩ : ∃ b : Int, b = (wrap64 a5).tmod 5 := ⟨_, rfl⟩
    have hb5 : 0 ≤ b ∧ b ≤ 4 := by
      have h5 := H5.out
      rw [hb, w64_id (x := a5) (by omega) (by omega), Int.tmod_eq_emod_of_nonneg h5.1]
      omega
    obtain ⟨nn, mm, fn, fm, nn1, mm1, fair, g0, g1, g2, g3⟩ := subjects_fair (b := b) (up := a6) hu hsum u1 ur r1 n0 n1 m0 m1 CT.out.1 CT.out.2.1 CT.out.2.2.1 CT.out.2.2.2 YZ.out.1 YZ.out.2.1 YZ.out.2.2.1 YZ.out.2.2.2 hb5.1 hb5.2
    generalize 8000 * r = dd at fn fm fair g0 g1 g2 g3
    obtain ⟨q3, f3⟩ := wealth_Factor_is n u r ((z - y) * 4) b a6
    obtain ⟨q4, f4⟩ := wealth_Factor_is m u r ((z - y) * 4) b a6
    rw [fn] at f3
    rw [fm] at f4
    have heff : wrap64 (wrap64 (z - y) * 4) = (z - y) * 4 := by
      have := YZ.out
      rw [w64_id (x := z - y) (by omega) (by omega), w64_id (by omega) (by omega)]
    rw [← heff, hb] at f3 f4
    have O3 := Aside0.mk (f3 q3 (Nat.le_refl _))
    have O4 := Aside0.mk (f4 q4 (Nat.le_refl _))
    obtain ⟨q5, f5⟩ := wealth_Grow_is (a := 4398046511104) (b := nn) (c := dd) nn1
    obtain ⟨q6, f6⟩ := wealth_Grow_is (a := 4398046511104) (b := mm) (c := dd) mm1
    generalize growS 4398046511104 nn dd = ga at f5 fair g0 g1
    generalize growS 4398046511104 mm dd = gb at f6 fair g2 g3
    have O5 := Aside0.mk (f5 q5 (Nat.le_refl _))
    have O6 := Aside0.mk (f6 q6 (Nat.le_refl _))
    have LE : Aside0 (wrap64 (wrap64 (C * ga) + wrap64 (T * gb)) ≤ wrap64 (wrap64 (C + T) * 4398046511104)) := ⟨by
      have ct := CT.out
      have k1 := mul_le (x := C) (y := ga) (a := 60) (b := 8796093022208) (by omega) g0 ct.2.1 g1
      have k2 := mul_le (x := T) (y := gb) (a := 60) (b := 8796093022208) (by omega) g2 ct.2.2.2 g3
      rw [w64_id (x := C * ga) (by omega) (by omega), w64_id (x := T * gb) (by omega) (by omega), w64_id (x := C + T) (by omega) (by omega), w64_id (x := C * ga + T * gb) (by omega) (by omega), w64_id (x := (C + T) * 4398046511104) (by omega) (by omega)]
      exact fair⟩
    clear f1 f2 f3 f4 f5 f6 on om hu hsum u1 ur hr r1 n0 n1 m0 m1 fn fm nn1 mm1 fair g0 g1 g2 g3 hb hb5 heff EC ET EY EZ H1 H2 H3 H4 H5 CT YZ
    go_cut [23, 24] (fun sp so wc => ∃ g : Nat, sp = .pointer (some ⟨g, 0, none⟩) ∧ so = .bool true ∧ Aside0 (wc.heap[g]? = some (.cells #[.int .i64 n, .int .i64 u, .int .i64 r] 28 (0, 0))) ∧ Aside0 (Below W0.heap.size W0 wc))
    case first =>
      exact region9_first (k1 := 0) NS Hcs HS3 BW O1 (by assumption) (by assumption)
    case rest =>
      obtain ⟨g1, rfl, rfl, HG1, HBc⟩ := hcut
      obtain ⟨W1, hW1⟩ : ∃ W1 : World, W1 = wc := ⟨_, rfl⟩
      subst hW1
      have HS4 := Aside0.mk (Kd.C_below HS3.out HBc.out)
      have BW4 := Aside0.mk (CA.blk_below HBc.out BW.out)
      have HB4 := Aside0.mk (below_step HB3.out HBc.out)
      clear HS3 BW HBc HB3
      go_upto_region 10 with (go_in)
      go_cut [25, 26] (fun sp so wc => ∃ g : Nat, sp = .pointer (some ⟨g, 0, none⟩) ∧ so = .bool true ∧ Aside0 (wc.heap[g]? = some (.cells #[.int .i64 m, .int .i64 u, .int .i64 r] 28 (0, 0))) ∧ Aside0 (Below W1.heap.size W1 wc))
      case first =>
        exact region10_first (k1 := 0) NS Hcs HS4 BW4 O2 (by assumption) (by assumption)
      case rest =>
        obtain ⟨g2, rfl, rfl, HG2, HBd⟩ := hcut
        obtain ⟨W2, hW2⟩ : ∃ W2 : World, W2 = wc := ⟨_, rfl⟩
        subst hW2
        have HG3 := CA.blk_below HBd.out HG1.out
        have HB5 := Aside0.mk (below_step HB4.out HBd.out)
        have p0 : W2.cell? ⟨g1, 0, none⟩ = some (.int .i64 n) := (blk_cell HG3 0).trans rfl
        have p1 : W2.cell? ⟨g1, 1, none⟩ = some (.int .i64 u) := (blk_cell HG3 1).trans rfl
        have p2 : W2.cell? ⟨g1, 2, none⟩ = some (.int .i64 r) := (blk_cell HG3 2).trans rfl
        have p3 : W2.cell? ⟨g2, 0, none⟩ = some (.int .i64 m) := (blk_cell HG2.out 0).trans rfl
        have p4 : W2.cell? ⟨g2, 1, none⟩ = some (.int .i64 u) := (blk_cell HG2.out 1).trans rfl
        have p5 : W2.cell? ⟨g2, 2, none⟩ = some (.int .i64 r) := (blk_cell HG2.out 2).trans rfl
        clear HS4 BW4 HBd HB4 HG3 HG1
        go_upto_region 15 with (first
          | (go_at_call 13; refine (wealth_Factor.calls q3 n u r (wrap64 (wrap64 (z - y) * 4)) ((wrap64 a5).tmod 5) a6 nn dd _ O3.out).mono ?_; rintro e8 w8 ⟨rfl, hB8⟩; have HB8 := Aside0.mk hB8; have p6 := pw_cell_below hB8 p3; have p7 := pw_cell_below hB8 p4; have p8 := pw_cell_below hB8 p5; clear hB8 p0 p1 p2 p3 p4 p5)
          | go_in)
        go_wp2_with (first
          | (go_at_call 13; refine (wealth_Factor.calls q4 m u r (wrap64 (wrap64 (z - y) * 4)) ((wrap64 a5).tmod 5) a6 mm dd _ O4.out).mono ?_; rintro e9 w9 ⟨rfl, hB9⟩; have HB9 := Aside0.mk hB9; have dle := decide_eq_true LE.out; clear hB9 p6 p7 p8)
          | (go_at_call 11; refine (wealth_Grow.calls q5 4398046511104 nn dd ga _ O5.out).mono ?_; rintro e10 w10 ⟨rfl, hB10⟩; have HB10 := Aside0.mk hB10; clear hB10 O5)
          | (go_at_call 11; refine (wealth_Grow.calls q6 4398046511104 mm dd gb _ O6.out).mono ?_; rintro e11 w11 ⟨rfl, hB11⟩; have HB11 := Aside0.mk hB11; clear hB11)
          | go_in)
        go_ret
        exact ⟨rfl, below_step (below_step (below_step (below_step HB5.out HB8.out) HB9.out) HB10.out) HB11.out⟩
end Go.Proofs.Ytafcnpfhihnmgaa.PA
