/- By hand: the law of the paths. -/
import Derived.Test.YthkgjkmcmkpkcaaB4
import Derived.Test.YthkgjkmcmkpkcaaM6
import Derived.Test.YthkgjkmcmkpkcaaCA
namespace Go.Proofs.Ythkgjkmcmkpkcaa.PA
open Go Go.RowKit Go.Maps Go.Proofs.YthkgjkmcmkpkcaaW.PrintWords Go.Proofs.YthkgjkmcmkpkcaaW.PrintLast Go.Proofs.YthkgjkmcmkpkcaaW.PrintMore Go.Proofs.Ythkgjkmcmkpkcaa.M
set_option linter.unusedVariables false
set_option linter.unusedSimpArgs false

theorem weights_two (a b c d : Int) : ∃ MD : List S41, flagstonedata_Weights.f a b c d = some MD ∧ MD.length = 2 := ⟨_, rfl, rfl⟩
set_option maxHeartbeats 4000000 in
set_option maxRecDepth 100000 in
theorem paths_calls (A0 : Option Addr) (c0 : Nat) (l0 : List Int) (a1 a2 a3 a4 : Int) (A5 : Option Addr) (c5 : Nat) (l5 : List S41) (a6 a7 : Int) (w : World)
    (hr0 : Kd.C (Kd.int .u8) w A0 l0.length l0) (hc0 : l0.length ≤ c0) (hl : ∀ x ∈ l0, 0 ≤ x ∧ x ≤ 255) (hr5 : Kd.C k41 w A5 l5.length l5) (hc5 : l5.length ≤ c5) :
    Calls Try.prog 6 #[.slice A0 l0.length c0, .int .u8 a1, .int .u8 a2, .int .u8 a3, .int .u8 a4, .slice A5 l5.length c5, .int .i64 a6, .int .u16 a7] w fun e w' => e = .returned (.bool true) ∧ Below w.heap.size w w' := by
  have hu41 := Try.underlying41
  have hu47 := Try.underlying47
  obtain ⟨k0, hk0⟩ := awake_is
  have HA := Aside0.mk (hk0 k0 (Nat.le_refl _))
  have HR0 := Aside0.mk hr0
  have HR5 := Aside0.mk hr5
  have HC0 := Aside0.mk hc0
  have HC5 := Aside0.mk hc5
  have HL := Aside0.mk hl
  clear hr0 hr5 hc0 hc5 hl hk0
  by_cases n1 : l0.length > 250 ∨ l5.length > 20
  · by_cases n2 : l0.length > 250
    · have d1 : decide ((250 : Int) < (l0.length : Int)) = true := decide_eq_true (by omega)
      clear n1 n2
      go_enter Try.func6, Try.ntmps6
      go_wp2_with (first
        | (go_at_call 8; refine (flagstonelaw42_awake.calls k0 true w HA.out).mono ?_; rintro e1 w1 ⟨rfl, hB1⟩; have HB1 := Aside0.mk hB1; clear hB1)
        | go_in)
      go_ret
      exact ⟨rfl, HB1.out⟩
    · have d1 : decide ((250 : Int) < (l0.length : Int)) = false := decide_eq_false (by omega)
      have d2 : decide ((20 : Int) < (l5.length : Int)) = true := decide_eq_true (by omega)
      clear n1 n2
      go_enter Try.func6, Try.ntmps6
      go_wp2_with (first
        | (go_at_call 8; refine (flagstonelaw42_awake.calls k0 true w HA.out).mono ?_; rintro e1 w1 ⟨rfl, hB1⟩; have HB1 := Aside0.mk hB1; clear hB1)
        | go_in)
      go_ret
      exact ⟨rfl, HB1.out⟩
  · have N1 : Aside0 (l0.length ≤ 250 ∧ l5.length ≤ 20) := ⟨by omega⟩
    have d1 : decide ((250 : Int) < (l0.length : Int)) = false := decide_eq_false (by omega)
    have d2 : decide ((20 : Int) < (l5.length : Int)) = false := decide_eq_false (by omega)
    clear n1
    obtain ⟨X, hX, hX1, hX2⟩ := exposures_are l0 HL.out (by have := N1.out; omega)
    obtain ⟨k1, hk1⟩ := hX
    obtain ⟨MD, hMD, hMD2⟩ := weights_two a1 a2 a3 a4
    have HX := Aside0.mk (hk1 k1 (Nat.le_refl _))
    have NX := Aside0.mk hX1
    have WX := Aside0.mk hX2
    have HM := Aside0.mk hMD
    have NM := Aside0.mk hMD2
    clear hk1 hX1 hX2 hMD hMD2
    go_enter Try.func6, Try.ntmps6
    go_upto_region 7 with (first
      | (go_at_call 8; refine (flagstonelaw42_awake.calls k0 true w HA.out).mono ?_; rintro e1 w1 ⟨rfl, hB1⟩; have HB1 := Aside0.mk hB1; clear hB1)
      | (go_at_call 13; refine (flagstonelaw42_exposures.calls k1 A0 c0 l0 X w1 (Kd.C_below HR0.out HB1.out) HC0.out HX.out).mono ?_; rintro e2 w2 ⟨v2, rfl, hR2, hB2⟩; obtain ⟨Ax, cx, rfl, hcx, hCx⟩ := Kd.R_reads hR2; have HB2 := Aside0.mk hB2; have HCx := Aside0.mk hCx; have Hcx := Aside0.mk hcx; clear hB2 hCx hcx hR2)
      | (go_at_call 14; refine (flagstonedata_Weights.calls a1 a2 a3 a4 MD w2 HM.out).mono ?_; rintro e3 w3 ⟨v3, rfl, hR3, hB3⟩; obtain ⟨Am, cm, rfl, hcm, hCm⟩ := Kd.R_reads hR3; have HB3 := Aside0.mk hB3; have HCm := Aside0.mk hCm; have Hcm := Aside0.mk hcm; clear hB3 hCm hcm hR3)
      | go_in)
    obtain ⟨BD, hBD⟩ : ∃ B : List S41, B = [⟨2, (wrap64 a1).tmod 2, wrap64 (9999 + (wrap64 a2).tmod 3)⟩] ++ MD := ⟨_, rfl⟩
    have NB : Aside0 (BD.length = 3) := ⟨by rw [hBD]; simp [NM.out]⟩
    have HBD := Aside0.mk hBD
    clear hBD
    have HLT := Aside0.mk (CA.lit_C k41 w3 41 (xs := [⟨2, (wrap64 a1).tmod 2, wrap64 (9999 + (wrap64 a2).tmod 3)⟩]) (inner := [.int .i64 2, .int .i64 ((wrap64 a1).tmod 2), .int .i64 (wrap64 (9999 + (wrap64 a2).tmod 3))]) ((Reps.none _ _).snoc (k41_mk _ _) rfl) (by simp))
    go_wp2_with (first
      | ((with_reducible refine gate_builtin (b := .append) (xs := #[.tmp 48, .tmp 49]) rfl ?_); at_builtin; refine CA.append_grow k41 rfl (.tmp 48) (.tmp 49) 36 41 _ 24 rfl Try.underlying36 info41 rfl (by decide) (by decide) (some ⟨w3.heap.size, 0, none⟩) 1 1 _ Am MD.length cm MD (by rfl) (by rfl) HLT.out (Kd.C_below HCm.out (below_alloc (Below.refl _ _) _)) (by omega) (fun h => by cases h) (fun h => by omega) (by have := NM.out; omega) BD HBD.out ?_; intro Ab cb w4 hCb hcb hB4; have HB4 := Aside0.mk (below_step (below_alloc (Below.refl w3.heap.size w3) _) hB4); have HCb := Aside0.mk hCb; have Hcb := Aside0.mk hcb; clear hCb hcb hB4 HLT)
      | go_in)
    have HX4 : Aside0 (k47.C w4 Ax X.length X) := ⟨Kd.C_below HCx.out (below_step HB3.out HB4.out)⟩
    have HM4 : Aside0 (k41.C w4 Am MD.length MD) := ⟨Kd.C_below HCm.out HB4.out⟩
    have HB : Aside0 (Below w.heap.size w w4) := ⟨below_step (below_step (below_step HB1.out HB2.out) HB3.out) HB4.out⟩
    have HW4 : Aside0 (k41.C w4 A5 l5.length l5) := ⟨Kd.C_below HR5.out HB.out⟩
    clear HB1 HB2 HB3 HB4 HCx HCm HR0 HR5 HC0 HL HA HX HM HBD d1 d2
    obtain ⟨EX, hEX⟩ : ∃ E : List S41, E = MD.take 1 ++ MD := ⟨_, rfl⟩
    have NE : Aside0 (EX.length = 3) := ⟨by rw [hEX]; simp [NM.out]⟩
    have HEX := Aside0.mk hEX
    clear hEX
    go_loopg [20] 5 (fun kx s20 wr => ∃ i : Nat, s20 = .int .i64 i ∧ i ≤ 4 ∧ 4 < i + kx ∧ Aside0 (Below w4.heap.size w4 wr))
    case atStart => exact ⟨0, rfl, by omega, by omega, ⟨Below.refl _ _⟩⟩
    case round =>
      obtain ⟨i, rfl, hi, hk, HBr⟩ := hrel
      have HXr : Aside0 (k47.C wr Ax X.length X) := ⟨Kd.C_below HX4.out HBr.out⟩
      have HMr : Aside0 (k41.C wr Am MD.length MD) := ⟨Kd.C_below HM4.out HBr.out⟩
      have HWr : Aside0 (k41.C wr A5 l5.length l5) := ⟨Kd.C_below HW4.out HBr.out⟩
      have HDr : Aside0 (k41.C wr Ab BD.length BD) := ⟨Kd.C_below HCb.out HBr.out⟩
      have H1r : Aside0 (k41.C wr Am 1 (MD.take 1)) := ⟨CA.C_take k41 HMr.out 1 (by have := NM.out; omega)⟩
      clear HX4 HM4 HW4 HCb
      have HCM : Aside0 (1 ≤ cm) := ⟨by have := NM.out; have := Hcm.out; omega⟩
      by_cases h4 : i = 4
      · subst h4
        clear hi hk
        go_wp2
        go_ret
        exact ⟨rfl, below_step HB.out HBr.out⟩
      · cases gk with
        | zero => omega
        | succ gk =>
          rcases (show i = 0 ∨ i = 1 ∨ i = 2 ∨ i = 3 by omega) with rfl | rfl | rfl | rfl
          · have hcm1 : decide ((1 : Int) ≤ (cm : Int)) = true := decide_eq_true (by have := HCM.out; omega)
            have hcm2 : 1 ≤ cm := HCM.out
            have hk5 : 4 < 0 + 1 + gk := by omega
            have HK := Aside0.mk hk5
            clear hi hk h4 hk5
            go_upto_region 12 with (first
              | ((with_reducible refine gate_builtin (b := .append) (xs := #[.tmp 59, .tmp 60]) rfl ?_); at_builtin; refine CA.append_grow k41 rfl (.tmp 59) (.tmp 60) 36 41 _ 24 rfl Try.underlying36 info41 rfl (by decide) (by decide) Am 1 1 _ Am MD.length cm MD (by rfl) (by rfl) H1r.out HMr.out (by omega) (fun h => by have := HMr.out.2.2 (by have := NM.out; omega); subst h; simp at this) (fun h => by have := NM.out; omega) (by have := NM.out; omega) EX HEX.out ?_; intro Ae ce w5 hCe hce hB5; have HB5 := Aside0.mk hB5; have HCe := Aside0.mk hCe; have Hce := Aside0.mk hce; clear hCe hce hB5)
              | go_in)
            clear hcm1 hcm2
            obtain ⟨P, A, hP, ⟨q1, e1⟩, ⟨q2, e2⟩, ⟨q3, e3⟩, ⟨q4, e4⟩⟩ := paths_same X l5 a6 (by have := NX.out; omega) (by have := N1.out; omega) WX.out
            obtain ⟨q5, e5⟩ := same_self P (by omega)
            have E1 := Aside0.mk (e1 q1 (Nat.le_refl _))
            have E2 := Aside0.mk (e2 q2 (Nat.le_refl _))
            have E3 := Aside0.mk (e3 q3 (Nat.le_refl _))
            have E4 := Aside0.mk (e4 q4 (Nat.le_refl _))
            have E5 := Aside0.mk (e5 q5 (Nat.le_refl _))
            clear e1 e2 e3 e4 e5 hP
            go_wp2_with (first
              | (go_at_call 15; refine (balance_Path.calls q1 Ax cx X A5 c5 l5 P _ (Kd.C_below HXr.out (below_alloc (below_alloc HB5.out _) _)) Hcx.out (Kd.C_below HWr.out (below_alloc (below_alloc HB5.out _) _)) HC5.out E1.out).mono ?_; rintro e7 w7 ⟨v7, rfl, hR7, hB7⟩; obtain ⟨A7, c7, rfl, hc7, hC7⟩ := Kd.R_reads hR7; have HB7 := Aside0.mk hB7; have HC7 := Aside0.mk hC7; have Hc7 := Aside0.mk hc7; clear hR7 hB7 hC7 hc7)
              | (go_at_call 16; refine (flagstoneref42_Path.calls q2 Ax cx X A5 c5 l5 P _ (Kd.C_below HXr.out (below_step (below_alloc (below_alloc HB5.out _) _) HB7.out)) Hcx.out (Kd.C_below HWr.out (below_step (below_alloc (below_alloc HB5.out _) _) HB7.out)) HC5.out E2.out).mono ?_; rintro e8 w8 ⟨v8, rfl, hR8, hB8⟩; obtain ⟨A8, c8, rfl, hc8, hC8⟩ := Kd.R_reads hR8; have HB8 := Aside0.mk hB8; have HC8 := Aside0.mk hC8; have Hc8 := Aside0.mk hc8; clear hR8 hB8 hC8 hc8)
              | (go_at_call 11; refine (flagstoneref30_SameInts.calls q5 A7 c7 P A8 c8 P true _ (Kd.C_below HC7.out HB8.out) Hc7.out HC8.out Hc8.out E5.out).mono ?_; rintro e9 w9 ⟨rfl, hD9⟩; have HB9 := Aside0.mk hD9.below; clear hD9)
              | (go_at_call 17; refine (balance_Alarm.calls q3 Ax cx X A5 c5 l5 a6 A _ (Kd.C_below HXr.out (below_step (below_step (below_step (below_alloc (below_alloc HB5.out _) _) HB7.out) HB8.out) HB9.out)) Hcx.out (Kd.C_below HWr.out (below_step (below_step (below_step (below_alloc (below_alloc HB5.out _) _) HB7.out) HB8.out) HB9.out)) HC5.out E3.out).mono ?_; rintro e10 w10 ⟨rfl, hB10⟩; have HB10 := Aside0.mk hB10; clear hB10)
              | (go_at_call 18; refine (flagstoneref42_Alarm.calls q4 Ax cx X A5 c5 l5 a6 A _ (Kd.C_below HXr.out (below_step (below_step (below_step (below_step (below_alloc (below_alloc HB5.out _) _) HB7.out) HB8.out) HB9.out) HB10.out)) Hcx.out (Kd.C_below HWr.out (below_step (below_step (below_step (below_step (below_alloc (below_alloc HB5.out _) _) HB7.out) HB8.out) HB9.out) HB10.out)) HC5.out E4.out).mono ?_; rintro e11 w11 ⟨rfl, hB11⟩; have HB11 := Aside0.mk hB11; clear hB11)
              | go_in)
            go_roundg gk
            case measure => omega
            case rel =>
              have hk5 := HK.out
              exact ⟨1, by first | rfl | go_num, by omega, by omega, ⟨below_step HBr.out (below_step (below_step (below_step (below_step (below_step (below_alloc (below_alloc HB5.out _) _) HB7.out) HB8.out) HB9.out) HB10.out) HB11.out)⟩⟩
          · have hcm1 : decide ((1 : Int) ≤ (cm : Int)) = true := decide_eq_true (by have := HCM.out; omega)
            have hcm2 : 1 ≤ cm := HCM.out
            have hk5 : 4 < 1 + 1 + gk := by omega
            have HK := Aside0.mk hk5
            clear hi hk h4 hk5
            go_upto_region 12 with (first
              | ((with_reducible refine gate_builtin (b := .append) (xs := #[.tmp 59, .tmp 60]) rfl ?_); at_builtin; refine CA.append_grow k41 rfl (.tmp 59) (.tmp 60) 36 41 _ 24 rfl Try.underlying36 info41 rfl (by decide) (by decide) Am 1 1 _ Am MD.length cm MD (by rfl) (by rfl) H1r.out HMr.out (by omega) (fun h => by have := HMr.out.2.2 (by have := NM.out; omega); subst h; simp at this) (fun h => by have := NM.out; omega) (by have := NM.out; omega) EX HEX.out ?_; intro Ae ce w5 hCe hce hB5; have HB5 := Aside0.mk hB5; have HCe := Aside0.mk hCe; have Hce := Aside0.mk hce; clear hCe hce hB5)
              | go_in)
            clear hcm1 hcm2
            obtain ⟨P, A, hP, ⟨q1, e1⟩, ⟨q2, e2⟩, ⟨q3, e3⟩, ⟨q4, e4⟩⟩ := paths_same X MD ((wrap64 a7).tmod 1001) (by have := NX.out; omega) (by have := NM.out; omega) WX.out
            obtain ⟨q5, e5⟩ := same_self P (by omega)
            have E1 := Aside0.mk (e1 q1 (Nat.le_refl _))
            have E2 := Aside0.mk (e2 q2 (Nat.le_refl _))
            have E3 := Aside0.mk (e3 q3 (Nat.le_refl _))
            have E4 := Aside0.mk (e4 q4 (Nat.le_refl _))
            have E5 := Aside0.mk (e5 q5 (Nat.le_refl _))
            clear e1 e2 e3 e4 e5 hP
            go_wp2_with (first
              | (go_at_call 15; refine (balance_Path.calls q1 Ax cx X Am cm MD P _ (Kd.C_below HXr.out (below_alloc (below_alloc HB5.out _) _)) Hcx.out (Kd.C_below HMr.out (below_alloc (below_alloc HB5.out _) _)) Hcm.out E1.out).mono ?_; rintro e7 w7 ⟨v7, rfl, hR7, hB7⟩; obtain ⟨A7, c7, rfl, hc7, hC7⟩ := Kd.R_reads hR7; have HB7 := Aside0.mk hB7; have HC7 := Aside0.mk hC7; have Hc7 := Aside0.mk hc7; clear hR7 hB7 hC7 hc7)
              | (go_at_call 16; refine (flagstoneref42_Path.calls q2 Ax cx X Am cm MD P _ (Kd.C_below HXr.out (below_step (below_alloc (below_alloc HB5.out _) _) HB7.out)) Hcx.out (Kd.C_below HMr.out (below_step (below_alloc (below_alloc HB5.out _) _) HB7.out)) Hcm.out E2.out).mono ?_; rintro e8 w8 ⟨v8, rfl, hR8, hB8⟩; obtain ⟨A8, c8, rfl, hc8, hC8⟩ := Kd.R_reads hR8; have HB8 := Aside0.mk hB8; have HC8 := Aside0.mk hC8; have Hc8 := Aside0.mk hc8; clear hR8 hB8 hC8 hc8)
              | (go_at_call 11; refine (flagstoneref30_SameInts.calls q5 A7 c7 P A8 c8 P true _ (Kd.C_below HC7.out HB8.out) Hc7.out HC8.out Hc8.out E5.out).mono ?_; rintro e9 w9 ⟨rfl, hD9⟩; have HB9 := Aside0.mk hD9.below; clear hD9)
              | (go_at_call 17; refine (balance_Alarm.calls q3 Ax cx X Am cm MD ((wrap64 a7).tmod 1001) A _ (Kd.C_below HXr.out (below_step (below_step (below_step (below_alloc (below_alloc HB5.out _) _) HB7.out) HB8.out) HB9.out)) Hcx.out (Kd.C_below HMr.out (below_step (below_step (below_step (below_alloc (below_alloc HB5.out _) _) HB7.out) HB8.out) HB9.out)) Hcm.out E3.out).mono ?_; rintro e10 w10 ⟨rfl, hB10⟩; have HB10 := Aside0.mk hB10; clear hB10)
              | (go_at_call 18; refine (flagstoneref42_Alarm.calls q4 Ax cx X Am cm MD ((wrap64 a7).tmod 1001) A _ (Kd.C_below HXr.out (below_step (below_step (below_step (below_step (below_alloc (below_alloc HB5.out _) _) HB7.out) HB8.out) HB9.out) HB10.out)) Hcx.out (Kd.C_below HMr.out (below_step (below_step (below_step (below_step (below_alloc (below_alloc HB5.out _) _) HB7.out) HB8.out) HB9.out) HB10.out)) Hcm.out E4.out).mono ?_; rintro e11 w11 ⟨rfl, hB11⟩; have HB11 := Aside0.mk hB11; clear hB11)
              | go_in)
            go_roundg gk
            case measure => omega
            case rel =>
              have hk5 := HK.out
              exact ⟨2, by first | rfl | go_num, by omega, by omega, ⟨below_step HBr.out (below_step (below_step (below_step (below_step (below_step (below_alloc (below_alloc HB5.out _) _) HB7.out) HB8.out) HB9.out) HB10.out) HB11.out)⟩⟩
          · have hcm1 : decide ((1 : Int) ≤ (cm : Int)) = true := decide_eq_true (by have := HCM.out; omega)
            have hcm2 : 1 ≤ cm := HCM.out
            have hk5 : 4 < 2 + 1 + gk := by omega
            have HK := Aside0.mk hk5
            clear hi hk h4 hk5
            go_upto_region 12 with (first
              | ((with_reducible refine gate_builtin (b := .append) (xs := #[.tmp 59, .tmp 60]) rfl ?_); at_builtin; refine CA.append_grow k41 rfl (.tmp 59) (.tmp 60) 36 41 _ 24 rfl Try.underlying36 info41 rfl (by decide) (by decide) Am 1 1 _ Am MD.length cm MD (by rfl) (by rfl) H1r.out HMr.out (by omega) (fun h => by have := HMr.out.2.2 (by have := NM.out; omega); subst h; simp at this) (fun h => by have := NM.out; omega) (by have := NM.out; omega) EX HEX.out ?_; intro Ae ce w5 hCe hce hB5; have HB5 := Aside0.mk hB5; have HCe := Aside0.mk hCe; have Hce := Aside0.mk hce; clear hCe hce hB5)
              | go_in)
            clear hcm1 hcm2
            obtain ⟨P, A, hP, ⟨q1, e1⟩, ⟨q2, e2⟩, ⟨q3, e3⟩, ⟨q4, e4⟩⟩ := paths_same X BD a6 (by have := NX.out; omega) (by have := NB.out; omega) WX.out
            obtain ⟨q5, e5⟩ := same_self P (by omega)
            have E1 := Aside0.mk (e1 q1 (Nat.le_refl _))
            have E2 := Aside0.mk (e2 q2 (Nat.le_refl _))
            have E3 := Aside0.mk (e3 q3 (Nat.le_refl _))
            have E4 := Aside0.mk (e4 q4 (Nat.le_refl _))
            have E5 := Aside0.mk (e5 q5 (Nat.le_refl _))
            clear e1 e2 e3 e4 e5 hP
            go_wp2_with (first
              | (go_at_call 15; refine (balance_Path.calls q1 Ax cx X Ab cb BD P _ (Kd.C_below HXr.out (below_alloc (below_alloc HB5.out _) _)) Hcx.out (Kd.C_below HDr.out (below_alloc (below_alloc HB5.out _) _)) Hcb.out E1.out).mono ?_; rintro e7 w7 ⟨v7, rfl, hR7, hB7⟩; obtain ⟨A7, c7, rfl, hc7, hC7⟩ := Kd.R_reads hR7; have HB7 := Aside0.mk hB7; have HC7 := Aside0.mk hC7; have Hc7 := Aside0.mk hc7; clear hR7 hB7 hC7 hc7)
              | (go_at_call 16; refine (flagstoneref42_Path.calls q2 Ax cx X Ab cb BD P _ (Kd.C_below HXr.out (below_step (below_alloc (below_alloc HB5.out _) _) HB7.out)) Hcx.out (Kd.C_below HDr.out (below_step (below_alloc (below_alloc HB5.out _) _) HB7.out)) Hcb.out E2.out).mono ?_; rintro e8 w8 ⟨v8, rfl, hR8, hB8⟩; obtain ⟨A8, c8, rfl, hc8, hC8⟩ := Kd.R_reads hR8; have HB8 := Aside0.mk hB8; have HC8 := Aside0.mk hC8; have Hc8 := Aside0.mk hc8; clear hR8 hB8 hC8 hc8)
              | (go_at_call 11; refine (flagstoneref30_SameInts.calls q5 A7 c7 P A8 c8 P true _ (Kd.C_below HC7.out HB8.out) Hc7.out HC8.out Hc8.out E5.out).mono ?_; rintro e9 w9 ⟨rfl, hD9⟩; have HB9 := Aside0.mk hD9.below; clear hD9)
              | (go_at_call 17; refine (balance_Alarm.calls q3 Ax cx X Ab cb BD a6 A _ (Kd.C_below HXr.out (below_step (below_step (below_step (below_alloc (below_alloc HB5.out _) _) HB7.out) HB8.out) HB9.out)) Hcx.out (Kd.C_below HDr.out (below_step (below_step (below_step (below_alloc (below_alloc HB5.out _) _) HB7.out) HB8.out) HB9.out)) Hcb.out E3.out).mono ?_; rintro e10 w10 ⟨rfl, hB10⟩; have HB10 := Aside0.mk hB10; clear hB10)
              | (go_at_call 18; refine (flagstoneref42_Alarm.calls q4 Ax cx X Ab cb BD a6 A _ (Kd.C_below HXr.out (below_step (below_step (below_step (below_step (below_alloc (below_alloc HB5.out _) _) HB7.out) HB8.out) HB9.out) HB10.out)) Hcx.out (Kd.C_below HDr.out (below_step (below_step (below_step (below_step (below_alloc (below_alloc HB5.out _) _) HB7.out) HB8.out) HB9.out) HB10.out)) Hcb.out E4.out).mono ?_; rintro e11 w11 ⟨rfl, hB11⟩; have HB11 := Aside0.mk hB11; clear hB11)
              | go_in)
            go_roundg gk
            case measure => omega
            case rel =>
              have hk5 := HK.out
              exact ⟨3, by first | rfl | go_num, by omega, by omega, ⟨below_step HBr.out (below_step (below_step (below_step (below_step (below_step (below_alloc (below_alloc HB5.out _) _) HB7.out) HB8.out) HB9.out) HB10.out) HB11.out)⟩⟩
          · have hcm1 : decide ((1 : Int) ≤ (cm : Int)) = true := decide_eq_true (by have := HCM.out; omega)
            have hcm2 : 1 ≤ cm := HCM.out
            have hk5 : 4 < 3 + 1 + gk := by omega
            have HK := Aside0.mk hk5
            clear hi hk h4 hk5
            go_upto_region 12 with (first
              | ((with_reducible refine gate_builtin (b := .append) (xs := #[.tmp 59, .tmp 60]) rfl ?_); at_builtin; refine CA.append_grow k41 rfl (.tmp 59) (.tmp 60) 36 41 _ 24 rfl Try.underlying36 info41 rfl (by decide) (by decide) Am 1 1 _ Am MD.length cm MD (by rfl) (by rfl) H1r.out HMr.out (by omega) (fun h => by have := HMr.out.2.2 (by have := NM.out; omega); subst h; simp at this) (fun h => by have := NM.out; omega) (by have := NM.out; omega) EX HEX.out ?_; intro Ae ce w5 hCe hce hB5; have HB5 := Aside0.mk hB5; have HCe := Aside0.mk hCe; have Hce := Aside0.mk hce; clear hCe hce hB5)
              | go_in)
            clear hcm1 hcm2
            obtain ⟨P, A, hP, ⟨q1, e1⟩, ⟨q2, e2⟩, ⟨q3, e3⟩, ⟨q4, e4⟩⟩ := paths_same X EX ((wrap64 a7).tmod 1001) (by have := NX.out; omega) (by have := NE.out; omega) WX.out
            obtain ⟨q5, e5⟩ := same_self P (by omega)
            have E1 := Aside0.mk (e1 q1 (Nat.le_refl _))
            have E2 := Aside0.mk (e2 q2 (Nat.le_refl _))
            have E3 := Aside0.mk (e3 q3 (Nat.le_refl _))
            have E4 := Aside0.mk (e4 q4 (Nat.le_refl _))
            have E5 := Aside0.mk (e5 q5 (Nat.le_refl _))
            clear e1 e2 e3 e4 e5 hP
            go_wp2_with (first
              | (go_at_call 15; refine (balance_Path.calls q1 Ax cx X Ae ce EX P _ (Kd.C_below HXr.out (below_alloc (below_alloc HB5.out _) _)) Hcx.out (Kd.C_below HCe.out (below_alloc (below_alloc (Below.refl w5.heap.size w5) _) _)) Hce.out E1.out).mono ?_; rintro e7 w7 ⟨v7, rfl, hR7, hB7⟩; obtain ⟨A7, c7, rfl, hc7, hC7⟩ := Kd.R_reads hR7; have HB7 := Aside0.mk hB7; have HC7 := Aside0.mk hC7; have Hc7 := Aside0.mk hc7; clear hR7 hB7 hC7 hc7)
              | (go_at_call 16; refine (flagstoneref42_Path.calls q2 Ax cx X Ae ce EX P _ (Kd.C_below HXr.out (below_step (below_alloc (below_alloc HB5.out _) _) HB7.out)) Hcx.out (Kd.C_below HCe.out (below_step (below_alloc (below_alloc (Below.refl w5.heap.size w5) _) _) HB7.out)) Hce.out E2.out).mono ?_; rintro e8 w8 ⟨v8, rfl, hR8, hB8⟩; obtain ⟨A8, c8, rfl, hc8, hC8⟩ := Kd.R_reads hR8; have HB8 := Aside0.mk hB8; have HC8 := Aside0.mk hC8; have Hc8 := Aside0.mk hc8; clear hR8 hB8 hC8 hc8)
              | (go_at_call 11; refine (flagstoneref30_SameInts.calls q5 A7 c7 P A8 c8 P true _ (Kd.C_below HC7.out HB8.out) Hc7.out HC8.out Hc8.out E5.out).mono ?_; rintro e9 w9 ⟨rfl, hD9⟩; have HB9 := Aside0.mk hD9.below; clear hD9)
              | (go_at_call 17; refine (balance_Alarm.calls q3 Ax cx X Ae ce EX ((wrap64 a7).tmod 1001) A _ (Kd.C_below HXr.out (below_step (below_step (below_step (below_alloc (below_alloc HB5.out _) _) HB7.out) HB8.out) HB9.out)) Hcx.out (Kd.C_below HCe.out (below_step (below_step (below_step (below_alloc (below_alloc (Below.refl w5.heap.size w5) _) _) HB7.out) HB8.out) HB9.out)) Hce.out E3.out).mono ?_; rintro e10 w10 ⟨rfl, hB10⟩; have HB10 := Aside0.mk hB10; clear hB10)
              | (go_at_call 18; refine (flagstoneref42_Alarm.calls q4 Ax cx X Ae ce EX ((wrap64 a7).tmod 1001) A _ (Kd.C_below HXr.out (below_step (below_step (below_step (below_step (below_alloc (below_alloc HB5.out _) _) HB7.out) HB8.out) HB9.out) HB10.out)) Hcx.out (Kd.C_below HCe.out (below_step (below_step (below_step (below_step (below_alloc (below_alloc (Below.refl w5.heap.size w5) _) _) HB7.out) HB8.out) HB9.out) HB10.out)) Hce.out E4.out).mono ?_; rintro e11 w11 ⟨rfl, hB11⟩; have HB11 := Aside0.mk hB11; clear hB11)
              | go_in)
            go_roundg gk
            case measure => omega
            case rel =>
              have hk5 := HK.out
              exact ⟨4, by first | rfl | go_num, by omega, by omega, ⟨below_step HBr.out (below_step (below_step (below_step (below_step (below_step (below_alloc (below_alloc HB5.out _) _) HB7.out) HB8.out) HB9.out) HB10.out) HB11.out)⟩⟩
end Go.Proofs.Ythkgjkmcmkpkcaa.PA
