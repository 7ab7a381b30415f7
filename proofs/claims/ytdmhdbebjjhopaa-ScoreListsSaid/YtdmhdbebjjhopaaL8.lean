/- By hand: the law of the lists of scores. -/
import Derived.Test.YtdmhdbebjjhopaaA11
import Derived.Test.YtdmhdbebjjhopaaA10
import Derived.Test.YtdmhdbebjjhopaaA7
import Derived.Test.YtdmhdbebjjhopaaCA
import Derived.RegionTactic
import Derived.Deep.RegionLaw
namespace Go.Proofs.Ytdmhdbebjjhopaa.PA
open Go Go.RowKit Go.Proofs.YtdmhdbebjjhopaaW.PrintWords Go.Proofs.YtdmhdbebjjhopaaW.PrintLast Go.Proofs.YtdmhdbebjjhopaaW.PrintMore Go.Proofs.Ytdmhdbebjjhopaa.M
set_option linter.unusedVariables false
set_option linter.unusedSimpArgs false

theorem weights_two (a b c d : Int) : ∃ MD : List S42, flagstonedata_Weights.f a b c d = some MD ∧ MD.length = 2 := ⟨_, rfl, rfl⟩
/-- An element of arm 3. -/
def arm3 (x : S34) : S34 := ⟨⟨x.f0.f0, x.f0.f1, x.f0.f2, x.f0.f3, 3, x.f0.f5⟩, x.f1, x.f2, x.f3, x.f4⟩
/-- The row, with element i of arm 3. -/
theorem put_arm {W : World} {base g n cap : Nat} {ok : Nat → Prop} {T : List S34} (h : Kd.R k34 34 W base ok (.slice (some ⟨g, 0, none⟩) n cap) T) (i : Nat) (hi : i < n) :
    W.cell? ⟨g, i * 10 + 6, none⟩ = some (.int .i64 (rd_T34 T (i : Int)).f1) ∧ W.cell? ⟨g, i * 10 + 4, none⟩ = some (.int .i64 (rd_T34 T (i : Int)).f0.f4) ∧ W.frozen? ⟨g, i * 10 + 4, none⟩ = false ∧
    Kd.R k34 34 (W.setCell ⟨g, i * 10 + 4, none⟩ (.int .i64 3)) base ok (.slice (some ⟨g, 0, none⟩) n cap) (T.set i (arm3 (rd_T34 T (i : Int)))) ∧ W.grownBy (W.setCell ⟨g, i * 10 + 4, none⟩ (.int .i64 3)) (some g) := by
  obtain ⟨c, hcl, hM, hcc, hfr⟩ := Kd.R_elem h z34 (i : Int) (by omega) (by omega)
  have hP := Kd.R_seg h (i : Int) (by omega) (by omega) (seg := [.int .i64 3]) (j := 4) hcl hcc (show 5 ≤ 10 from by decide) (x' := arm3 (rd_T34 T (i : Int))) (by
    obtain rfl := k34_openM hM
    exact k34_mkM _ _ _ (arm3 (rd_T34 T (i : Int)))) (fun _ hk => hk)
  obtain rfl := k34_openM hM
  have h6 := hcc 6 _ rfl
  have h4 := hcc 4 _ rfl
  have f4 := hfr 4
  simp only [Int.toNat_natCast, show (k34).sz = 10 from rfl] at h6 h4 f4 hP
  exact ⟨h6, h4, f4, hP.1, hP.2⟩
/-- The four lists of weights, in their block. -/
def ListsAt (W : World) (g : Nat) : Prop := ∀ i, i < 4 → ∃ A c, ∃ Y : List S42, W.cell? ⟨g, i, none⟩ = some (.slice A Y.length c) ∧ Y.length ≤ c ∧ Y.length ≤ 100 ∧ k42.C W A Y.length Y
theorem ListsAt.below {W W' : World} {g : Nat} (h : ListsAt W g) (hb : Below W.heap.size W W') : ListsAt W' g := by
  intro i hi
  obtain ⟨A, c, Y, h1, h2, h3, h4⟩ := h i hi
  exact ⟨A, c, Y, pw_cell_below hb h1, h2, h3, Kd.C_below h4 hb⟩
theorem lists_made {w5 : World} {A5 Am Ae : Option Addr} {l5 MD EX : List S42} {c5 cm ce : Nat} (h5 : k42.C w5 A5 l5.length l5) (hm : k42.C w5 Am 2 MD) (he : k42.C w5 Ae EX.length EX) (b5 : l5.length ≤ c5) (bm : 2 ≤ cm) (be : EX.length ≤ ce) (n5 : l5.length ≤ 100) (ne : EX.length ≤ 100) :
    ListsAt (w5.alloc (.cells #[.slice A5 l5.length c5, .slice Am 2 cm, .slice Am 1 cm, .slice Ae EX.length ce] 43)) w5.heap.size := by
  have hb : Below w5.heap.size w5 (w5.alloc (.cells #[.slice A5 l5.length c5, .slice Am 2 cm, .slice Am 1 cm, .slice Ae EX.length ce] 43)) := below_alloc (Below.refl _ _) _
  have hn := blk_new w5 (.cells #[.slice A5 l5.length c5, .slice Am 2 cm, .slice Am 1 cm, .slice Ae EX.length ce] 43)
  have hm2 : MD.length = 2 := hm.1
  intro i hi
  rcases (show i = 0 ∨ i = 1 ∨ i = 2 ∨ i = 3 by omega) with rfl | rfl | rfl | rfl
  · exact ⟨A5, c5, l5, (blk_cell hn 0).trans rfl, b5, n5, Kd.C_below h5 hb⟩
  · exact ⟨Am, cm, MD, by rw [hm2]; exact (blk_cell hn 1).trans rfl, by omega, by omega, by rw [hm2]; exact Kd.C_below hm hb⟩
  · have h1 : (MD.take 1).length = 1 := by rw [List.length_take]; omega
    exact ⟨Am, cm, MD.take 1, by rw [h1]; exact (blk_cell hn 2).trans rfl, by omega, by omega, by rw [h1]; exact CA.C_take k42 (Kd.C_below hm hb) 1 (by omega)⟩
  · exact ⟨Ae, ce, EX, (blk_cell hn 3).trans rfl, be, ne, Kd.C_below he hb⟩
set_option maxHeartbeats 1000000 in
set_option maxRecDepth 100000 in
theorem lists_calls (A0 : Option Addr) (c0 : Nat) (l0 : List Int) (a1 a2 a3 a4 : Int) (A5 : Option Addr) (c5 : Nat) (l5 : List S42) (a6 : Bool) (w : World)
    (hr0 : Kd.C (Kd.int .u8) w A0 l0.length l0) (hc0 : l0.length ≤ c0) (hl : ∀ x ∈ l0, 0 ≤ x ∧ x ≤ 255) (hr5 : Kd.C k42 w A5 l5.length l5) (hc5 : l5.length ≤ c5) :
    Calls Try.prog 8 #[.slice A0 l0.length c0, .int .u8 a1, .int .u8 a2, .int .u8 a3, .int .u8 a4, .slice A5 l5.length c5, .bool a6] w fun e w' => e = .returned (.bool true) ∧ Below w.heap.size w w' := by
  have hu34 := Try.underlying34
  have hu32 := Try.underlying32
  have hu42 := Try.underlying42
  obtain ⟨k0, hk0⟩ := awake39_is
  have HA := Aside0.mk (hk0 k0 (Nat.le_refl _))
  have HR0 := Aside0.mk hr0
  have HR5 := Aside0.mk hr5
  have HC0 := Aside0.mk hc0
  have HC5 := Aside0.mk hc5
  have HL := Aside0.mk hl
  clear hr0 hr5 hc0 hc5 hl hk0
  by_cases n1 : l0.length > 200 ∨ l5.length > 20
  · by_cases n2 : l0.length > 200
    · have d1 : decide ((200 : Int) < (l0.length : Int)) = true := decide_eq_true (by omega)
      clear n1 n2
      go_enter Try.func8, Try.ntmps8
      go_wp2_with (first
        | (go_at_call 11; refine (flagstonelaw39_awake.calls k0 true w HA.out).mono ?_; rintro e1 w1 ⟨rfl, hB1⟩; have HB1 := Aside0.mk hB1; clear hB1)
        | go_in)
      go_ret
      exact ⟨rfl, HB1.out⟩
    · have d1 : decide ((200 : Int) < (l0.length : Int)) = false := decide_eq_false (by omega)
      have d2 : decide ((20 : Int) < (l5.length : Int)) = true := decide_eq_true (by omega)
      clear n1 n2
      go_enter Try.func8, Try.ntmps8
      go_wp2_with (first
        | (go_at_call 11; refine (flagstonelaw39_awake.calls k0 true w HA.out).mono ?_; rintro e1 w1 ⟨rfl, hB1⟩; have HB1 := Aside0.mk hB1; clear hB1)
        | go_in)
      go_ret
      exact ⟨rfl, HB1.out⟩
  · have N1 : Aside0 (l0.length ≤ 200 ∧ l5.length ≤ 20) := ⟨by omega⟩
    have d1 : decide ((200 : Int) < (l0.length : Int)) = false := decide_eq_false (by omega)
    have d2 : decide ((20 : Int) < (l5.length : Int)) = false := decide_eq_false (by omega)
    clear n1
    obtain ⟨S, ⟨k1, hk1⟩, hS1, hS2⟩ := samples_are l0 HL.out (by have := N1.out; omega) 60 (by decide) (by decide)
    obtain ⟨MD, hMD, hMD2⟩ := weights_two a1 a2 a3 a4
    have HS := Aside0.mk (hk1 k1 (Nat.le_refl _))
    have NS := Aside0.mk hS1
    have WS := Aside0.mk hS2
    have HM := Aside0.mk hMD
    have NM := Aside0.mk hMD2
    clear hk1 hS1 hS2 hMD hMD2
    go_enter Try.func8, Try.ntmps8
    go_wp2_with (first
      | (go_at_call 11; refine (flagstonelaw39_awake.calls k0 true w HA.out).mono ?_; rintro e1 w1 ⟨rfl, hB1⟩; have HB1 := Aside0.mk hB1; clear hB1)
      | (go_at_call 12; refine (flagstonedata_Samples.calls k1 A0 c0 l0 60 S w1 (Kd.C_below HR0.out HB1.out) HC0.out HS.out).mono ?_; rintro e2 w2 ⟨v2, rfl, hR2, hB2⟩; obtain ⟨As, cs, rfl⟩ := Kd.R_slice hR2; have HR2 := Aside0.mk (Kd.R_lower hR2 HB1.out.size); have HB2 := Aside0.mk (below_step HB1.out hB2); clear hB2 hR2)
      | go_in)
    clear d1 d2
    go_loopg [16] (S.length + 1) (fun kx s16 wr => ∃ (i : Nat) (T : List S34), s16 = .int .i64 i ∧ i ≤ S.length ∧ S.length < i + kx ∧ T.length = S.length ∧ Aside0 (∀ x ∈ T, x.f3 ≤ 9223372036854775807) ∧ Aside0 (Kd.R k34 34 wr w.heap.size (fun _ => True) (.slice As S.length cs) T) ∧ Aside0 (Below w.heap.size w wr))
    case atStart => exact ⟨0, S, rfl, by omega, by omega, rfl, ⟨fun x hx => by have := (WS.out x hx).2.2.2.2.2; omega⟩, HR2, HB2⟩
    case round =>
      obtain ⟨i, T, rfl, hi, hk, hT, H3, HR, HB⟩ := hrel
      clear HR2 HB2
      by_cases hlt : i < S.length
      · cases gk with
        | zero => omega
        | succ gk =>
          obtain ⟨g, rfl⟩ : ∃ g, As = some ⟨g, 0, none⟩ := by
            obtain ⟨inner, ho⟩ := Kd.R_own HR.out
            obtain ⟨g, cap, e, _⟩ := ho.form (by omega)
            injection e with e
            exact ⟨g, e⟩
          obtain ⟨q6, q4, qf, qR, qg⟩ := put_arm HR.out i hlt
          have F0 : Aside0 (i < S.length ∧ S.length < i + (gk + 1) ∧ T.length = S.length ∧ S.length ≤ 40) := ⟨by have := NS.out; omega⟩
          have QR := Aside0.mk qR
          have QG := Aside0.mk qg
          have dl : decide ((i : Int) < (S.length : Int)) = true := decide_eq_true (by omega)
          have hi0 : (0 : Int) ≤ (i : Int) := by omega
          have hi1 : (i : Int) < (S.length : Int) := by omega
          clear qR qg hi hk hT
          by_cases hb : Int.tmod (rd_T34 T (i : Int)).f1 11 = 7
          · have hbb : ((Int.tmod (rd_T34 T (i : Int)).f1 11) == 7) = true := by simpa using hb
            have hbd : decide ((Int.tmod (rd_T34 T (i : Int)).f1 11) = 7) = true := decide_eq_true hb
            clear hb
            have hs40 : S.length ≤ 40 := NS.out
            go_wp2
            go_roundg gk
            case measure => omega
            case rel =>
              obtain ⟨f1, f2, f3, f4⟩ := F0.out
              refine ⟨i + 1, T.set i (arm3 (rd_T34 T (i : Int))), by go_num, by omega, by omega, by rw [List.length_set]; exact f3, ⟨fun x hx => ?_⟩, QR, ⟨HB.out.grown QG.out HB.out.size (fun k hk => by cases hk; exact own_base (Kd.R_own HR.out).choose_spec g (by simp [Value.ownBlock]))⟩⟩
              rcases List.mem_or_eq_of_mem_set hx with hx | rfl
              · exact H3.out x hx
              · rw [rd_T (show i < T.length by omega)]
                exact (show (arm3 T[i]).f3 ≤ 9223372036854775807 from H3.out T[i] (List.getElem_mem _))
          · have hbb : ((Int.tmod (rd_T34 T (i : Int)).f1 11) == 7) = false := by simpa using hb
            have hbd : decide ((Int.tmod (rd_T34 T (i : Int)).f1 11) = 7) = false := decide_eq_false hb
            clear hb QR QG q4 qf
            have hs40 : S.length ≤ 40 := NS.out
            go_wp2
            go_roundg gk
            case measure => omega
            case rel =>
              obtain ⟨f1, f2, f3, f4⟩ := F0.out
              exact ⟨i + 1, T, by go_num, by omega, by omega, f3, H3, HR, HB⟩
      · have hT2 : i = S.length := by omega
        subst hT2
        rw [← hT]
        have dl : decide ((T.length : Int) < (T.length : Int)) = false := decide_eq_false (by omega)
        obtain ⟨As', cs', e1, hcs, hCs⟩ := Kd.R_reads HR.out
        obtain ⟨rfl, rfl⟩ : As' = As ∧ cs' = cs := by
          injection e1 with e1 e2 e3
          exact ⟨e1.symm, e3.symm⟩
        have NT : Aside0 (T.length = S.length ∧ S.length ≤ 40) := ⟨hT, NS.out⟩
        have HT := Aside0.mk hCs
        have Hcs := Aside0.mk hcs
        have HR5r : Aside0 (Kd.C k42 wr A5 l5.length l5) := ⟨Kd.C_below HR5.out HB.out⟩
        clear e1 hcs hCs hi hk hlt HR HR5 HR0 HC0 HL HA HS WS NS
        have HTL := Aside0.mk hT
        clear hT
        go_upto_region 12 with (first
          | (go_at_call 21; refine (flagstonedata_Weights.calls a1 a2 a3 a4 MD wr HM.out).mono ?_; rintro e3 w3 ⟨v3, rfl, hR3, hB3⟩; obtain ⟨inm, hom⟩ := Kd.R_own hR3; obtain ⟨gm, cm', rfl, _⟩ := hom.form (by have := NM.out; omega); obtain ⟨Am, cm, em, hcm, hCm⟩ := Kd.R_reads hR3; (obtain ⟨rfl, rfl⟩ : Am = some ⟨gm, 0, none⟩ ∧ cm = cm' := by (injection em with e1 e2 e3; exact ⟨e1.symm, e3.symm⟩)); clear em hom; have HB3 := Aside0.mk hB3; have HCm := Aside0.mk hCm; have Hcm := Aside0.mk hcm; clear hB3 hCm hcm hR3)
          | go_in)
        have ML : MD.length = 2 := NM.out
        rw [ML] at HCm Hcm ⊢
        have hcm1 : (1 : Int) ≤ (cm : Int) := by have := Hcm.out; omega
        have hcm2 : (2 : Int) ≤ (cm : Int) := by have := Hcm.out; omega
        have hcm3 : 2 ≤ cm := Hcm.out
        have hcm4 : 1 ≤ cm := by omega
        clear ML
        obtain ⟨EX, hEX⟩ : ∃ E : List S42, E = (MD.drop 1).take 1 ++ MD := ⟨_, rfl⟩
        have NE : Aside0 (EX.length = 3) := ⟨by rw [hEX]; simp [NM.out]⟩
        have HEX := Aside0.mk hEX
        clear hEX
        have hD1 : k42.C w3 (some ⟨gm, 3, none⟩) 1 ((MD.drop 1).take 1) := by
          obtain ⟨ad, e, h⟩ := CA.C_drop k42 HCm.out 1 (by omega)
          injection e with e
          subst e
          have e3 : (⟨gm, 0, none⟩ : Addr).add (1 * k42.sz) = ⟨gm, 3, none⟩ := add_plain gm 3
          rw [e3] at h
          exact CA.C_take k42 h 1 (by omega)
        have HD1 := Aside0.mk hD1
        clear hD1
        have HD2 := Aside0.mk (Kd.C_below HD1.out (below_drew (Below.refl w3.heap.size w3)))
        have HC2 := Aside0.mk (Kd.C_below HCm.out (below_drew (Below.refl w3.heap.size w3)))
        go_region_law ((refine CA.append_grow_step (W := w3.drew) k42 (by kernel_rfl) (.tmp 62) (.tmp 63) 43 42 _ 24 (by kernel_rfl) Try.underlying43 info42 rfl (by decide) (by decide) (some ⟨gm, 3, none⟩) 1 1 _ (some ⟨gm, 0, none⟩) 2 cm MD (by kernel_rfl) (by kernel_rfl) HD2.out HC2.out (by omega) (fun h => by cases h) (fun h => by omega) (by omega) EX HEX.out ?_; intro Ae ce w5 hCe hce hB5))
        have hb35 : Below w3.heap.size w3 w5 := below_step (below_drew (Below.refl w3.heap.size w3)) hB5
        have HLs := Aside0.mk (lists_made (A5 := A5) (Am := some ⟨gm, 0, none⟩) (c5 := c5) (cm := cm) (Kd.C_below HR5r.out (below_step HB3.out hb35)) (Kd.C_below HCm.out hb35) hCe HC5.out Hcm.out hce (by have := N1.out; omega) (by have := NE.out; omega))
        obtain ⟨W6, hW6⟩ : ∃ W6, W6 = w5.alloc (.cells #[.slice A5 l5.length c5, .slice (some ⟨gm, 0, none⟩) 2 cm, .slice (some ⟨gm, 0, none⟩) 1 cm, .slice Ae EX.length ce] 43) := ⟨_, rfl⟩
        have HBw : Aside0 (Below wr.heap.size wr W6) := ⟨by rw [hW6]; exact below_alloc (below_step HB3.out hb35) _⟩
        rw [← hW6] at HLs ⊢
        generalize w5.heap.size = gl at HLs ⊢
        have HT6 : Aside0 (k34.C W6 As' T.length T) := ⟨Kd.C_below HT.out HBw.out⟩
        have HB6 : Aside0 (Below w.heap.size w W6) := ⟨below_step HB.out HBw.out⟩
        clear hW6 hb35 hB5 hCe hce HR5r HB3 HCm Hcm HD1 HD2 HC2 HT HBw HB hcm1 hcm2 hcm3 hcm4 HEX NE NM HM HC5 dl
        go_wp2
        go_loopg [19] 5 (fun kx s19 wr2 => ∃ i : Nat, s19 = .int .i64 i ∧ i ≤ 4 ∧ 4 < i + kx ∧ Aside0 (Below W6.heap.size W6 wr2))
        case atStart => exact ⟨0, rfl, by omega, by omega, ⟨Below.refl _ _⟩⟩
        case round =>
          obtain ⟨i, rfl, hi, hk, HBr⟩ := hrel
          by_cases h4 : i = 4
          · subst h4
            clear hi hk
            go_wp2
            go_ret
            exact ⟨rfl, below_step HB6.out HBr.out⟩
          · cases gk with
            | zero => omega
            | succ gko =>
              have F4 : Aside0 (i < 4 ∧ 4 < i + 1 + gko) := ⟨by omega⟩
              have d4 : decide ((i : Int) < 4) = true := decide_eq_true (by omega)
              clear hi hk h4
              go_wp2
              have HX7 : Aside0 (k34.C (wr.alloc (.cells #[.int .i64 60, .int .i64 50] 3)) As' T.length T) := ⟨Kd.C_below HT6.out (below_alloc HBr.out _)⟩
              have HB7 : Aside0 (Below W6.heap.size W6 (wr.alloc (.cells #[.int .i64 60, .int .i64 50] 3))) := ⟨below_alloc HBr.out _⟩
              have HL7 : Aside0 (ListsAt (wr.alloc (.cells #[.int .i64 60, .int .i64 50] 3)) gl) := ⟨HLs.out.below HB7.out⟩
              have HC7 : Aside0 (∀ j, j < 2 → ∃ cp : Int, (wr.alloc (.cells #[.int .i64 60, .int .i64 50] 3)).cell? ⟨wr.heap.size, j, none⟩ = some (.int .i64 cp)) := ⟨fun j hj => by
                have hn := blk_new wr (.cells #[.int .i64 60, .int .i64 50] 3)
                rcases (show j = 0 ∨ j = 1 by omega) with rfl | rfl
                · exact ⟨60, (blk_cell hn 0).trans rfl⟩
                · exact ⟨50, (blk_cell hn 1).trans rfl⟩⟩
              generalize wr.alloc (.cells #[.int .i64 60, .int .i64 50] 3) = W7 at HX7 HB7 HL7 HC7 ⊢
              generalize wr.heap.size = gc at HC7 ⊢
              clear HBr
              go_loopg [74] 3 (fun kx s74 wr3 => ∃ j : Nat, s74 = .int .i64 j ∧ j ≤ 2 ∧ 2 < j + kx ∧ Aside0 (Below W7.heap.size W7 wr3))
              case atStart => exact ⟨0, rfl, by omega, by omega, ⟨Below.refl _ _⟩⟩
              case round =>
                obtain ⟨j, rfl, hj, hk, HBs⟩ := hrel
                by_cases h2 : j = 2
                · subst h2
                  clear hj hk
                  have h5 : i < 4 := F4.out.1
                  go_wp2
                  go_roundg gko
                  case measure => omega
                  case rel =>
                    obtain ⟨f1, f2⟩ := F4.out
                    exact ⟨i + 1, by go_num, by omega, by omega, ⟨below_step HB7.out HBs.out⟩⟩
                · cases gk with
                  | zero => omega
                  | succ gki =>
                    have F5 : Aside0 (j < 2 ∧ 2 < j + 1 + gki) := ⟨by omega⟩
                    have d5 : decide ((j : Int) < 2) = true := decide_eq_true (by omega)
                    have j0 : (0 : Int) ≤ (j : Int) := by omega
                    have j1 : (j : Int) < 2 := by omega
                    obtain ⟨cp, hcp⟩ := HC7.out j (by omega)
                    have hcp3 := pw_cell_below HBs.out hcp
                    clear hj hk h2 hcp
                    have i0 : (0 : Int) ≤ (i : Int) := by omega
                    have i1 : (i : Int) < 4 := by have := F4.out; omega
                    obtain ⟨AY, cY, Y, hcl, hY1, hY2, hY3⟩ := (HL7.out.below HBs.out) i F4.out.1
                    have HY := Aside0.mk hY3
                    have HcY := Aside0.mk hY1
                    have HY2 := Aside0.mk hY2
                    have HX := Aside0.mk (Kd.C_below HX7.out HBs.out)
                    clear hY1 hY2 hY3
                    obtain ⟨q1, e1⟩ := All_is T Y cp a6 (by have := HTL.out; have := NT.out; omega) (by have := HY2.out; omega)
                    obtain ⟨q2, e2⟩ := refAll_is T Y cp a6 (by have := HTL.out; have := NT.out; omega) (by have := HY2.out; omega) H3.out
                    have hlen : (allS T Y cp a6 0 T).length ≤ 40 := by have := allS_length T Y cp a6 T 0; have := HTL.out; have := NT.out; omega
                    generalize allS T Y cp a6 0 T = R at e1 e2 hlen
                    obtain ⟨q3, e3⟩ := same39 R (by omega)
                    have E1 := Aside0.mk (e1 q1 (Nat.le_refl _))
                    have E2 := Aside0.mk (e2 q2 (Nat.le_refl _))
                    have E3 := Aside0.mk (e3 q3 (Nat.le_refl _))
                    clear e1 e2 e3 hlen
                    go_upto_region 19 with (go_in)
                    go_region_held3 (fun w' => w'.cell? ⟨gl, i, none⟩ = some (.slice AY Y.length cY)) (first | exact hcl | exact pw_cell_below hB7 hcl | exact pw_cell_below hB8 (pw_cell_below hB7 hcl) | exact pw_cell_below hB9 (pw_cell_below hB8 (pw_cell_below hB7 hcl)))
                      (first
                        | (go_at_call 23; refine (score_All.calls q1 As' cs' T AY cY Y cp a6 R _ (Kd.C_below HX.out (below_drew (Below.refl _ _))) Hcs.out (Kd.C_below HY.out (below_drew (Below.refl _ _))) HcY.out E1.out).mono ?_; rintro e7 w7 ⟨v7, rfl, hR7, hB7⟩; obtain ⟨A7, c7, rfl, hc7, hC7⟩ := Kd.R_reads hR7; clear hR7)
                        | (go_at_call 24; refine (flagstoneref39_All.calls q2 As' cs' T AY cY Y cp a6 R _ (Kd.C_below HX.out (below_step (below_drew (Below.refl _ _)) hB7)) Hcs.out (Kd.C_below HY.out (below_step (below_drew (Below.refl _ _)) hB7)) HcY.out E2.out).mono ?_; rintro e8 w8 ⟨v8, rfl, hR8, hB8⟩; obtain ⟨A8, c8, rfl, hc8, hC8⟩ := Kd.R_reads hR8; clear hR8)
                        | (go_at_call 22; refine (flagstoneref39_Same.calls q3 A7 c7 R A8 c8 R true _ (Kd.C_below hC7 hB8) hc7 hC8 hc8 E3.out).mono ?_; rintro e9 w9 ⟨rfl, hD9⟩; have hB9 := hD9.below; clear hD9))
                    have HB10 := Aside0.mk (below_step (below_step (below_step (below_step HBs.out (below_drew (Below.refl _ _))) hB7) hB8) hB9)
                    clear hB7 hB8 hB9 hC7 hC8 hc7 hc8 hcl hcp3
                    go_wp2
                    go_roundg gki
                    case measure => omega
                    case rel =>
                      obtain ⟨f1, f2⟩ := F5.out
                      exact ⟨j + 1, by go_num, by omega, by omega, HB10⟩
end Go.Proofs.Ytdmhdbebjjhopaa.PA
