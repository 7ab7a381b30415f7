/- By hand: Path of balance. -/
import Derived.Test.YthkgjkmcmkpkcaaK2
namespace Go.Proofs.Ythkgjkmcmkpkcaa.PA
open Go Go.RowKit Go.Maps Go.Proofs.YthkgjkmcmkpkcaaW.PrintWords Go.Proofs.YthkgjkmcmkpkcaaW.PrintLast Go.Proofs.YthkgjkmcmkpkcaaW.PrintMore
set_option linter.unusedVariables false
set_option linter.unusedSimpArgs false

/-- An exposure that does not count. -/
def skipS (w : List S41) (x : S47) : Bool := decide ((x.f4 ≠ 1 ∧ x.f4 ≠ 2) ∨ idxS x.f5 0 w < 0 ∨ (rd_T41 w (idxS x.f5 0 w)).f1 < 1 ∨ (rd_T41 w (idxS x.f5 0 w)).f1 > 10000 ∨ (rd_T41 w (idxS x.f5 0 w)).f2 < 1 ∨ (rd_T41 w (idxS x.f5 0 w)).f2 > 10000)
def balP (k : Nat) (w : List S41) : List S47 → Int → (Int → List Int) → List Int → Option (List Int)
  | [], _, _, out => some out
  | x :: xs, wl, cnt, out => if (Lit.int .i64 x.f5).wf = true then (if skipS w x = true then balP k w xs wl cnt out else ((balance_Step.f k wl (cnt x.f5) [(rd_T41 w (idxS x.f5 0 w)).f1, (rd_T41 w (idxS x.f5 0 w)).f2] x.f4).bind fun r => if out.length < 17592186044416 then balP k w xs r.1 (updC cnt x.f5 r.2) (out ++ [r.1]) else none)) else none
def balance_Path.f (k : Nat) (l0 : List S47) (l1 : List S41) : Option (List Int) := if l0.length < 1000000 ∧ l1.length < 1000000 then balP k l1 l0 4294967296 (fun _ => [0, 0]) [] else none
theorem balP.mono (w : List S41) (k : Nat) : ∀ (xs : List S47) (wl : Int) (cnt : Int → List Int) (out : List Int), LeO (balP k w xs wl cnt out) (balP (k + 1) w xs wl cnt out)
  | [], _, _, _ => LeO.refl _
  | x :: xs, wl, cnt, out => by
    unfold balP
    exact LeO.ite (LeO.ite (balP.mono w k xs _ _ _) (LeO.bind (balance_Step.mono _ _ _ _ _) (fun _ => LeO.ite (balP.mono w k xs _ _ _) (LeO.refl _)))) (LeO.refl _)
theorem balance_Path.mono : ∀ a0 a1 k, LeO (balance_Path.f k a0 a1) (balance_Path.f (k + 1) a0 a1) := fun a0 a1 k => LeO.ite (balP.mono _ _ _ _ _ _) (LeO.refl _)
theorem rd_E47 {xs : List S47} {i : Nat} (h : i < xs.length) : rd_T47 xs (i : Int) = xs[i] := by
  unfold rd_T47
  simp [h]
theorem balP_drop {k : Nat} {w : List S41} {l : List S47} {x : Int} {wl : Int} {cnt : Int → List Int} {out : List Int} {r : List Int} (h0 : 0 ≤ x) (h1 : x < l.length) (h : balP k w (l.drop x.toNat) wl cnt out = some r) :
    (Lit.int .i64 (rd_T47 l x).f5).wf = true ∧ (skipS w (rd_T47 l x) = true ∧ balP k w (l.drop (x + 1).toNat) wl cnt out = some r ∨ skipS w (rd_T47 l x) = false ∧ ∃ r1 r2, balance_Step.f k wl (cnt (rd_T47 l x).f5) [(rd_T41 w (idxS (rd_T47 l x).f5 0 w)).f1, (rd_T41 w (idxS (rd_T47 l x).f5 0 w)).f2] (rd_T47 l x).f4 = some (r1, r2) ∧ out.length < 17592186044416 ∧ balP k w (l.drop (x + 1).toNat) r1 (updC cnt (rd_T47 l x).f5 r2) (out ++ [r1]) = some r) := by
  obtain ⟨i, rfl⟩ := Int.eq_ofNat_of_zero_le h0
  have hi : i < l.length := by omega
  rw [Int.toNat_natCast, List.drop_eq_getElem_cons hi, ← rd_E47 hi] at h
  rw [show ((i : Int) + 1).toNat = i + 1 by omega]
  generalize rd_T47 l (i : Int) = e at *
  unfold balP at h
  by_cases a : (Lit.int .i64 e.f5).wf = true
  · rw [if_pos a] at h
    refine ⟨a, ?_⟩
    by_cases b : skipS w e = true
    · rw [if_pos b] at h
      exact .inl ⟨b, h⟩
    · rw [if_neg b] at h
      obtain ⟨⟨r1, r2⟩, h1, h2⟩ := Option.bind_eq_some_iff.mp h
      by_cases c : out.length < 17592186044416
      · simp only [if_pos c] at h2
        exact .inr ⟨by simpa using b, r1, r2, h1, c, h2⟩
      · simp only [if_neg c] at h2
        cases h2
  · rw [if_neg a] at h
    cases h
theorem Rv_inv {v : Value} {d : DataW Value} {ps : List MemPlace} (h : Rv v = some (d, ps)) : d = .held v := by
  simp only [Rv, Option.some.injEq, Prod.mk.injEq] at h
  exact h.1.symm
theorem own_map {w : World} {b n : Nat} {D : DataW Value} (h : w.ownsMap Try.prog 3 Rv b n D) : IsMap D := by
  obtain ⟨es, clock, h1, F, hs, rfl⟩ := h
  exact ⟨_, rfl⟩
theorem lit2 (w : World) (c t : Int) : Kd.C (Kd.int .i64) (w.alloc (.cells #[.int .i64 c, .int .i64 t] 3)) (some ⟨w.heap.size, 0, none⟩) 2 [c, t] := by
  have hr : (Kd.int .i64).R 3 (w.alloc (.cells #[.int .i64 c, .int .i64 t] 3)) 0 (fun _ => True) (.slice (some ⟨w.heap.size, 0, none⟩) 2 2) [c, t] := ⟨fun _ _ => trivial, [.int .i64 c, .int .i64 t], World.ownsRow_lit (base := 0) (e := 3) (size := 1) w #[.int .i64 c, .int .i64 t] 2 (Nat.zero_le _) (by simp [maxLen]) (by simp), Reps.one (show Kd.M (Kd.int .i64) _ _ _ c [.int .i64 c] from rfl) (Reps.one (show Kd.M (Kd.int .i64) _ _ _ t [.int .i64 t] from rfl) (Reps.none _ _))⟩
  exact (Kd.R_reads' hr).2.2
theorem tab14 : rtab .any (opsOf Try.f15 14) = (true, [([], []), ([], []), ([1], [1]), ([], []), ([], []), ([], []), ([], []), ([5, 6], [5, 6]), ([], []), ([8], [8]), ([3, 4, 7, 9], [3, 4, 7, 9]), ([10], [10]), ([11], [11]), ([11], [11]), ([12, 10, 3, 4, 5, 6, 7, 8, 9, 10, 11, 12], [3, 12]), ([0, 2, 13, 14, 0, 1, 2, 3, 4, 5, 6, 7, 8, 9, 10, 11, 12, 13, 14], [0, 2, 13])]) := by kernel_rfl
theorem bits14 : waitsOk [([], []), ([], []), ([1], [1]), ([], []), ([], []), ([], []), ([], []), ([5, 6], [5, 6]), ([], []), ([8], [8]), ([3, 4, 7, 9], [3, 4, 7, 9]), ([10], [10]), ([11], [11]), ([11], [11]), ([12, 10, 3, 4, 5, 6, 7, 8, 9, 10, 11, 12], [3, 12]), ([0, 2, 13, 14, 0, 1, 2, 3, 4, 5, 6, 7, 8, 9, 10, 11, 12, 13, 14], [0, 2, 13])] [0, 0, 2, 0, 0, 0, 0, 96, 0, 256, 1016, 2040, 4088, 4088, 8184, 32767] = true := by kernel_rfl
set_option maxHeartbeats 4000000 in
set_option maxRecDepth 100000 in
theorem balance_Path.calls (k : Nat) (A0 : Option Addr) (c0 : Nat) (l0 : List (S47)) (A1 : Option Addr) (c1 : Nat) (l1 : List (S41)) (r : List Int) (w : World) (hr0 : Kd.C k47 w A0 l0.length l0) (hc0 : l0.length ≤ c0) (hr1 : Kd.C k41 w A1 l1.length l1) (hc1 : l1.length ≤ c1) (h : balance_Path.f k l0 l1 = some r) :
    Calls Try.prog 15 #[.slice A0 l0.length c0, .slice A1 l1.length c1] w fun e w' => ∃ v0_ : Value, e = .returned (v0_) ∧ Kd.R (Kd.int .i64) 3 w' w.heap.size (fun _ => True) v0_ r ∧ Below w.heap.size w w' := by
  have hu41 := Try.underlying41
  have hu47 := Try.underlying47
  have hu59 := Try.underlying59
  have hmm := @run_makeMap Try.prog
  unfold balance_Path.f at h
  by_cases hlen : l0.length < 1000000 ∧ l1.length < 1000000
  · rw [if_pos hlen] at h
    have H0 := Aside0.mk h
    have HR0 := Aside0.mk hr0
    have HR1 := Aside0.mk hr1
    have HC0 := Aside0.mk hc0
    have HC1 := Aside0.mk hc1
    have HN := Aside0.mk hlen
    clear h hr0 hr1 hc0 hc1 hlen
    go_enter Try.func15, Try.ntmps15
    go_wp2
    have I0 : PathI w w.heap.size 0 (fun _ => [0, 0]) (.slice none 0 0) [] (w.alloc (.map #[] 0)) := ⟨Nat.le_refl _, (Below.refl _ _).alloc (Nat.le_refl _) _, ⟨.map [], World.ownsMap_made _ _ _ _, fun v hv => .inl ⟨rfl, rfl⟩⟩, Kd.R_nil _ _ _ _ _⟩
    have I00 := Aside0.mk I0
    clear I0
    go_loopg [6, 7, 18] (l0.length + 1) (fun kx s6 s7 s18 wr => ∃ (x : Int) (n : Nat) (wl : Int) (cnt : Int → List Int) (vo : Value) (out : List Int), s6 = .int .i64 wl ∧ vo = s7 ∧ s18 = .int .i64 x ∧ Aside0 (0 ≤ x ∧ x ≤ l0.length ∧ (l0.length : Int) < x + kx ∧ (n : Int) ≤ x) ∧ Aside0 (balP k l1 (l0.drop x.toNat) wl cnt out = some r) ∧ Aside0 (PathI w w.heap.size n cnt vo out wr))
    case atStart => exact ⟨0, 0, _, _, _, _, rfl, rfl, rfl, ⟨by omega⟩, H0, I00⟩
    case round =>
      clear I00 H0
      obtain ⟨x, n, wl, cnt, vo, out, rfl, rfl, rfl, HX, HP, I0⟩ := hrel
      by_cases hlt : x < (l0.length : Int)
      · cases gk with
        | zero => have := HX.out; omega
        | succ gk =>
          have p0 : 0 ≤ x := HX.out.1
          obtain ⟨hwf, hcase⟩ := balP_drop p0 hlt HP.out
          have HW := Aside0.mk hwf
          have HCASE := Aside0.mk hcase
          clear hwf hcase HP
          obtain ⟨ad, e0, hx0, hx1, hx2, hx3, hx4, hx5⟩ := at_T47 HR0.out x p0 hlt
          cases e0
          replace hx0 := (I0.out.below.cell (World.block_lt_of_cell? w _ hx0)).trans hx0
          replace hx1 := (I0.out.below.cell (World.block_lt_of_cell? w _ hx1)).trans hx1
          replace hx2 := (I0.out.below.cell (World.block_lt_of_cell? w _ hx2)).trans hx2
          replace hx3 := (I0.out.below.cell (World.block_lt_of_cell? w _ hx3)).trans hx3
          replace hx4 := (I0.out.below.cell (World.block_lt_of_cell? w _ hx4)).trans hx4
          replace hx5 := (I0.out.below.cell (World.block_lt_of_cell? w _ hx5)).trans hx5
          have d0 : decide (x < (l0.length : Int)) = true := decide_eq_true hlt
          have HLT := Aside0.mk hlt
          replace p0 := eq_true p0
          replace hlt := eq_true hlt
          generalize rd_T47 l0 x = e at *
          go_upto_region 7 with (first | ((with_reducible refine gate_dst (N := 9) rfl ?_); refine box_event ?hg (N := 9) ?hd (cs := #[.string (⟨#[]⟩ : ByteArray), .string (⟨#[]⟩ : ByteArray), .int .i64 0, .int .i64 0, .int .i64 0, .int .i64 0]) (t := 47) ?hr ?_; (case hd => rfl); (case hg => rfl); (case hr => first | (go_simp; done) | (go_simp; rfl)); intro g hg w3 hbox hb; have z0 : w3.cell? ⟨g, 0, none⟩ = some (.string (⟨#[]⟩ : ByteArray)) := (blk_cell hbox 0).trans rfl; have f0 := blk_frozen hbox 0; have z1 : w3.cell? ⟨g, 1, none⟩ = some (.string (⟨#[]⟩ : ByteArray)) := (blk_cell hbox 1).trans rfl; have f1 := blk_frozen hbox 1; have z2 : w3.cell? ⟨g, 2, none⟩ = some (.int .i64 0) := (blk_cell hbox 2).trans rfl; have f2 := blk_frozen hbox 2; have z3 : w3.cell? ⟨g, 3, none⟩ = some (.int .i64 0) := (blk_cell hbox 3).trans rfl; have f3 := blk_frozen hbox 3; have z4 : w3.cell? ⟨g, 4, none⟩ = some (.int .i64 0) := (blk_cell hbox 4).trans rfl; have f4 := blk_frozen hbox 4; have z5 : w3.cell? ⟨g, 5, none⟩ = some (.int .i64 0) := (blk_cell hbox 5).trans rfl; have f5 := blk_frozen hbox 5; have BK := Aside0.mk hbox; have GE := Aside0.mk (show w.heap.size ≤ g by rw [hg]; exact below_size I0.out.below); have I1 := Aside0.mk (I0.out.step hb); clear hbox hg hb I0))
          have B2 := Aside0.mk (store6 (a0 := .string e.f0) (a1 := .string e.f1) (a2 := .int .i64 e.f2) (a3 := .int .i64 e.f3) (a4 := .int .i64 e.f4) (a5 := .int .i64 e.f5) BK.out)
          have I2 := Aside0.mk (I1.out.store6 (a0 := .string e.f0) (a1 := .string e.f1) (a2 := .int .i64 e.f2) (a3 := .int .i64 e.f3) (a4 := .int .i64 e.f4) (a5 := .int .i64 e.f5) BK.out (by decide) GE.out)
          clear z0 z1 z2 z3 z4 z5 f0 f1 f2 f3 f4 f5 BK I1 hx0 hx1 hx2 hx3 hx4 hx5
          generalize ((((((w3.setCell ⟨g, 0, none⟩ (.string e.f0)).setCell ⟨g, 1, none⟩ (.string e.f1)).setCell ⟨g, 2, none⟩ (.int .i64 e.f2)).setCell ⟨g, 3, none⟩ (.int .i64 e.f3)).setCell ⟨g, 4, none⟩ (.int .i64 e.f4)).setCell ⟨g, 5, none⟩ (.int .i64 e.f5)) = w4 at B2 I2 ⊢
          go_upto_region 8 with (first | (go_at_call 27; refine (idx_calls HN.out.2 (Kd.C_below HR1.out I2.out.below) HC1.out ((blk_cell B2.out 5).trans rfl)).mono ?_; rintro e1 w5 ⟨rfl, hB⟩) | go_in)
          have B3 := Aside0.mk (blk_below B2.out hB)
          have I3 := Aside0.mk (I2.out.step hB)
          clear B2 I2 hB
          have hc4 : w5.cell? ⟨g, 4, none⟩ = some (.int .i64 e.f4) := (blk_cell B3.out 4).trans rfl
          have hc5 : w5.cell? ⟨g, 5, none⟩ = some (.int .i64 e.f5) := (blk_cell B3.out 5).trans rfl
          have hin := idxS_in e.f5 l1 0
          generalize hidx : idxS e.f5 0 l1 = idx at hin HCASE ⊢
          have HI := Aside0.mk hin
          clear hin
          unfold skipS at HCASE
          rw [hidx] at HCASE
          clear hidx
          rcases HCASE.out with ⟨hs, hP⟩ | ⟨hs, r1, r2, hS, hO, hP⟩
          · have HP := Aside0.mk hP
            have hs1 := of_decide_eq_true hs
            clear hs hP HCASE
            by_cases ha : e.f4 ≠ 1 ∧ e.f4 ≠ 2
            · have q1 : (e.f4 != 1) = true := bne_iff_ne.mpr ha.1
              have q2 : (e.f4 != 2) = true := bne_iff_ne.mpr ha.2
              clear ha hs1
              go_wp2
              go_roundg gk
              case measure => have := HX.out; omega
              case rel =>
                have f := HX.out
                have hN := HN.out.1
                have hl := HLT.out
                have hw : wrap64 (x + 1) = x + 1 := w64_id' (by omega) (by omega)
                exact ⟨wrap64 (x + 1), n, wl, cnt, _, out, rfl, rfl, rfl, ⟨by rw [hw]; omega⟩, ⟨by rw [hw]; exact HP.out⟩, I3⟩
            · rcases (show e.f4 = 1 ∨ e.f4 = 2 by omega) with ha | ha
              · have q1 : (e.f4 != 1) = false := by rw [ha]; decide
                by_cases hi : idx < 0
                · have q3 : decide (idx < 0) = true := decide_eq_true hi
                  clear hs1 ha hi
                  go_wp2
                  go_roundg gk
                  case measure => have := HX.out; omega
                  case rel =>
                    have f := HX.out
                    have hN := HN.out.1
                    have hl := HLT.out
                    have hw : wrap64 (x + 1) = x + 1 := w64_id' (by omega) (by omega)
                    exact ⟨wrap64 (x + 1), n, wl, cnt, _, out, rfl, rfl, rfl, ⟨by rw [hw]; omega⟩, ⟨by rw [hw]; exact HP.out⟩, I3⟩
                · obtain ⟨ad1, e1, hy0, hy1, hy2⟩ := at_T41 HR1.out idx (by omega) (by have := HI.out; omega)
                  cases e1
                  replace hy1 := (I3.out.below.cell (World.block_lt_of_cell? w _ hy1)).trans hy1
                  replace hy2 := (I3.out.below.cell (World.block_lt_of_cell? w _ hy2)).trans hy2
                  have p1 : (0 ≤ idx) = True := eq_true (by omega)
                  have p2 : (idx < (l1.length : Int)) = True := eq_true (by have := HI.out; omega)
                  have q3 : decide (idx < 0) = false := decide_eq_false (by omega)
                  generalize hc : (rd_T41 l1 idx).f1 = c at *
                  generalize ht : (rd_T41 l1 idx).f2 = t at *
                  clear hc ht
                  by_cases d0 : c < 1
                  · have k0 : decide (c < 1) = true := decide_eq_true d0
                    clear hs1 ha hi d0
                    go_wp2
                    go_region_held3 (fun w' => w'.cell? { block := (ad1.add (idx.toNat * 3)).block, off := (ad1.add (idx.toNat * 3)).off + 1 } = some (.int .i64 c) ∧ w'.cell? { block := (ad1.add (idx.toNat * 3)).block, off := (ad1.add (idx.toNat * 3)).off + 2 } = some (.int .i64 t)) (go_keep) (fail)
                    go_wp2
                    go_roundg gk
                    case measure => have := HX.out; omega
                    case rel =>
                      have f := HX.out
                      have hN := HN.out.1
                      have hl := HLT.out
                      have hw : wrap64 (x + 1) = x + 1 := w64_id' (by omega) (by omega)
                      exact ⟨wrap64 (x + 1), n, wl, cnt, _, out, rfl, rfl, rfl, ⟨by rw [hw]; omega⟩, ⟨by rw [hw]; exact HP.out⟩, ⟨I3.out.step (below_drew (Below.refl _ _))⟩⟩
                  · have k0 : decide (c < 1) = false := decide_eq_false d0
                    by_cases d1 : c > 10000
                    · have k1 : decide (10000 < c) = true := decide_eq_true d1
                      clear hs1 ha hi d0 d1
                      go_wp2
                      go_region_held3 (fun w' => w'.cell? { block := (ad1.add (idx.toNat * 3)).block, off := (ad1.add (idx.toNat * 3)).off + 1 } = some (.int .i64 c) ∧ w'.cell? { block := (ad1.add (idx.toNat * 3)).block, off := (ad1.add (idx.toNat * 3)).off + 2 } = some (.int .i64 t)) (go_keep) (fail)
                      go_wp2
                      go_roundg gk
                      case measure => have := HX.out; omega
                      case rel =>
                        have f := HX.out
                        have hN := HN.out.1
                        have hl := HLT.out
                        have hw : wrap64 (x + 1) = x + 1 := w64_id' (by omega) (by omega)
                        exact ⟨wrap64 (x + 1), n, wl, cnt, _, out, rfl, rfl, rfl, ⟨by rw [hw]; omega⟩, ⟨by rw [hw]; exact HP.out⟩, ⟨I3.out.step (below_drew (Below.refl _ _))⟩⟩
                    · have k1 : decide (10000 < c) = false := decide_eq_false d1
                      by_cases d2 : t < 1
                      · have k2 : decide (t < 1) = true := decide_eq_true d2
                        clear hs1 ha hi d0 d1 d2
                        go_wp2
                        go_region_held3 (fun w' => w'.cell? { block := (ad1.add (idx.toNat * 3)).block, off := (ad1.add (idx.toNat * 3)).off + 1 } = some (.int .i64 c) ∧ w'.cell? { block := (ad1.add (idx.toNat * 3)).block, off := (ad1.add (idx.toNat * 3)).off + 2 } = some (.int .i64 t)) (go_keep) (fail)
                        go_wp2
                        go_roundg gk
                        case measure => have := HX.out; omega
                        case rel =>
                          have f := HX.out
                          have hN := HN.out.1
                          have hl := HLT.out
                          have hw : wrap64 (x + 1) = x + 1 := w64_id' (by omega) (by omega)
                          exact ⟨wrap64 (x + 1), n, wl, cnt, _, out, rfl, rfl, rfl, ⟨by rw [hw]; omega⟩, ⟨by rw [hw]; exact HP.out⟩, ⟨I3.out.step (below_drew (Below.refl _ _))⟩⟩
                      · have k2 : decide (t < 1) = false := decide_eq_false d2
                        by_cases d3 : t > 10000
                        · have k3 : decide (10000 < t) = true := decide_eq_true d3
                          clear hs1 ha hi d0 d1 d2 d3
                          go_wp2
                          go_region_held3 (fun w' => w'.cell? { block := (ad1.add (idx.toNat * 3)).block, off := (ad1.add (idx.toNat * 3)).off + 1 } = some (.int .i64 c) ∧ w'.cell? { block := (ad1.add (idx.toNat * 3)).block, off := (ad1.add (idx.toNat * 3)).off + 2 } = some (.int .i64 t)) (go_keep) (fail)
                          go_wp2
                          go_roundg gk
                          case measure => have := HX.out; omega
                          case rel =>
                            have f := HX.out
                            have hN := HN.out.1
                            have hl := HLT.out
                            have hw : wrap64 (x + 1) = x + 1 := w64_id' (by omega) (by omega)
                            exact ⟨wrap64 (x + 1), n, wl, cnt, _, out, rfl, rfl, rfl, ⟨by rw [hw]; omega⟩, ⟨by rw [hw]; exact HP.out⟩, ⟨I3.out.step (below_drew (Below.refl _ _))⟩⟩
                        · have k3 : decide (10000 < t) = false := decide_eq_false d3
                          exfalso
                          rcases hs1 with h | h | h | h | h | h
                          · exact absurd ha (by omega)
                          · omega
                          · omega
                          · omega
                          · omega
                          · omega
              · have q1 : (e.f4 != 1) = true := by rw [ha]; decide
                have q2 : (e.f4 != 2) = false := by rw [ha]; decide
                by_cases hi : idx < 0
                · have q3 : decide (idx < 0) = true := decide_eq_true hi
                  clear hs1 ha hi
                  go_wp2
                  go_roundg gk
                  case measure => have := HX.out; omega
                  case rel =>
                    have f := HX.out
                    have hN := HN.out.1
                    have hl := HLT.out
                    have hw : wrap64 (x + 1) = x + 1 := w64_id' (by omega) (by omega)
                    exact ⟨wrap64 (x + 1), n, wl, cnt, _, out, rfl, rfl, rfl, ⟨by rw [hw]; omega⟩, ⟨by rw [hw]; exact HP.out⟩, I3⟩
                · obtain ⟨ad1, e1, hy0, hy1, hy2⟩ := at_T41 HR1.out idx (by omega) (by have := HI.out; omega)
                  cases e1
                  replace hy1 := (I3.out.below.cell (World.block_lt_of_cell? w _ hy1)).trans hy1
                  replace hy2 := (I3.out.below.cell (World.block_lt_of_cell? w _ hy2)).trans hy2
                  have p1 : (0 ≤ idx) = True := eq_true (by omega)
                  have p2 : (idx < (l1.length : Int)) = True := eq_true (by have := HI.out; omega)
                  have q3 : decide (idx < 0) = false := decide_eq_false (by omega)
                  generalize hc : (rd_T41 l1 idx).f1 = c at *
                  generalize ht : (rd_T41 l1 idx).f2 = t at *
                  clear hc ht
                  by_cases d0 : c < 1
                  · have k0 : decide (c < 1) = true := decide_eq_true d0
                    clear hs1 ha hi d0
                    go_wp2
                    go_region_held3 (fun w' => w'.cell? { block := (ad1.add (idx.toNat * 3)).block, off := (ad1.add (idx.toNat * 3)).off + 1 } = some (.int .i64 c) ∧ w'.cell? { block := (ad1.add (idx.toNat * 3)).block, off := (ad1.add (idx.toNat * 3)).off + 2 } = some (.int .i64 t)) (go_keep) (fail)
                    go_wp2
                    go_roundg gk
                    case measure => have := HX.out; omega
                    case rel =>
                      have f := HX.out
                      have hN := HN.out.1
                      have hl := HLT.out
                      have hw : wrap64 (x + 1) = x + 1 := w64_id' (by omega) (by omega)
                      exact ⟨wrap64 (x + 1), n, wl, cnt, _, out, rfl, rfl, rfl, ⟨by rw [hw]; omega⟩, ⟨by rw [hw]; exact HP.out⟩, ⟨I3.out.step (below_drew (Below.refl _ _))⟩⟩
                  · have k0 : decide (c < 1) = false := decide_eq_false d0
                    by_cases d1 : c > 10000
                    · have k1 : decide (10000 < c) = true := decide_eq_true d1
                      clear hs1 ha hi d0 d1
                      go_wp2
                      go_region_held3 (fun w' => w'.cell? { block := (ad1.add (idx.toNat * 3)).block, off := (ad1.add (idx.toNat * 3)).off + 1 } = some (.int .i64 c) ∧ w'.cell? { block := (ad1.add (idx.toNat * 3)).block, off := (ad1.add (idx.toNat * 3)).off + 2 } = some (.int .i64 t)) (go_keep) (fail)
                      go_wp2
                      go_roundg gk
                      case measure => have := HX.out; omega
                      case rel =>
                        have f := HX.out
                        have hN := HN.out.1
                        have hl := HLT.out
                        have hw : wrap64 (x + 1) = x + 1 := w64_id' (by omega) (by omega)
                        exact ⟨wrap64 (x + 1), n, wl, cnt, _, out, rfl, rfl, rfl, ⟨by rw [hw]; omega⟩, ⟨by rw [hw]; exact HP.out⟩, ⟨I3.out.step (below_drew (Below.refl _ _))⟩⟩
                    · have k1 : decide (10000 < c) = false := decide_eq_false d1
                      by_cases d2 : t < 1
                      · have k2 : decide (t < 1) = true := decide_eq_true d2
                        clear hs1 ha hi d0 d1 d2
                        go_wp2
                        go_region_held3 (fun w' => w'.cell? { block := (ad1.add (idx.toNat * 3)).block, off := (ad1.add (idx.toNat * 3)).off + 1 } = some (.int .i64 c) ∧ w'.cell? { block := (ad1.add (idx.toNat * 3)).block, off := (ad1.add (idx.toNat * 3)).off + 2 } = some (.int .i64 t)) (go_keep) (fail)
                        go_wp2
                        go_roundg gk
                        case measure => have := HX.out; omega
                        case rel =>
                          have f := HX.out
                          have hN := HN.out.1
                          have hl := HLT.out
                          have hw : wrap64 (x + 1) = x + 1 := w64_id' (by omega) (by omega)
                          exact ⟨wrap64 (x + 1), n, wl, cnt, _, out, rfl, rfl, rfl, ⟨by rw [hw]; omega⟩, ⟨by rw [hw]; exact HP.out⟩, ⟨I3.out.step (below_drew (Below.refl _ _))⟩⟩
                      · have k2 : decide (t < 1) = false := decide_eq_false d2
                        by_cases d3 : t > 10000
                        · have k3 : decide (10000 < t) = true := decide_eq_true d3
                          clear hs1 ha hi d0 d1 d2 d3
                          go_wp2
                          go_region_held3 (fun w' => w'.cell? { block := (ad1.add (idx.toNat * 3)).block, off := (ad1.add (idx.toNat * 3)).off + 1 } = some (.int .i64 c) ∧ w'.cell? { block := (ad1.add (idx.toNat * 3)).block, off := (ad1.add (idx.toNat * 3)).off + 2 } = some (.int .i64 t)) (go_keep) (fail)
                          go_wp2
                          go_roundg gk
                          case measure => have := HX.out; omega
                          case rel =>
                            have f := HX.out
                            have hN := HN.out.1
                            have hl := HLT.out
                            have hw : wrap64 (x + 1) = x + 1 := w64_id' (by omega) (by omega)
                            exact ⟨wrap64 (x + 1), n, wl, cnt, _, out, rfl, rfl, rfl, ⟨by rw [hw]; omega⟩, ⟨by rw [hw]; exact HP.out⟩, ⟨I3.out.step (below_drew (Below.refl _ _))⟩⟩
                        · have k3 : decide (10000 < t) = false := decide_eq_false d3
                          exfalso
                          rcases hs1 with h | h | h | h | h | h
                          · exact absurd ha (by omega)
                          · omega
                          · omega
                          · omega
                          · omega
                          · omega
          · have hs1 := of_decide_eq_false hs
            have HP := Aside0.mk hP
            have HS := Aside0.mk hS
            have HO := Aside0.mk hO
            clear hs hP hS hO HCASE
            rcases (show e.f4 = 1 ∨ e.f4 = 2 by omega) with ha | ha
            · have q1 : (e.f4 != 1) = false := by rw [ha]; decide
              have hi : ¬ idx < 0 := by omega
              obtain ⟨ad1, e1, hy0, hy1, hy2⟩ := at_T41 HR1.out idx (by omega) (by have := HI.out; omega)
              cases e1
              replace hy1 := (I3.out.below.cell (World.block_lt_of_cell? w _ hy1)).trans hy1
              replace hy2 := (I3.out.below.cell (World.block_lt_of_cell? w _ hy2)).trans hy2
              have p1 : (0 ≤ idx) = True := eq_true (by omega)
              have p2 : (idx < (l1.length : Int)) = True := eq_true (by have := HI.out; omega)
              have q3 : decide (idx < 0) = false := decide_eq_false (by omega)
              generalize hc : (rd_T41 l1 idx).f1 = c at *
              generalize ht : (rd_T41 l1 idx).f2 = t at *
              have k0 : decide (c < 1) = false := decide_eq_false (by omega)
              have k1 : decide (10000 < c) = false := decide_eq_false (by omega)
              have k2 : decide (t < 1) = false := decide_eq_false (by omega)
              have k3 : decide (10000 < t) = false := decide_eq_false (by omega)
              clear hs1 hi ha hc ht
              have NL := Aside0.mk (show n < maxLen by have := HX.out; have := HN.out; unfold maxLen; omega)
              have HK := Aside0.mk (keyOf_int_mk (P := Try.prog) Try.underlying3 HW.out)
              go_wp2
              go_region_held3 (fun w' => w'.cell? { block := (ad1.add (idx.toNat * 3)).block, off := (ad1.add (idx.toNat * 3)).off + 1 } = some (.int .i64 c) ∧ w'.cell? { block := (ad1.add (idx.toNat * 3)).block, off := (ad1.add (idx.toNat * 3)).off + 2 } = some (.int .i64 t)) (go_keep) (fail)
              have I4 := Aside0.mk (I3.out.step (below_drew (Below.refl _ _)))
              have B4 := Aside0.mk (blk_drew B3.out)
              clear I3 B3 hc4 hc5 hy1 hy2
              generalize w5.drew = w6 at I4 B4 ⊢
              have hc4 : w6.cell? ⟨g, 4, none⟩ = some (.int .i64 e.f4) := (blk_cell B4.out 4).trans rfl
              have hc5 : w6.cell? ⟨g, 5, none⟩ = some (.int .i64 e.f5) := (blk_cell B4.out 5).trans rfl
              obtain ⟨D, hown, hent⟩ := I4.out.map
              rcases hent e.f5 HW.out with ⟨hh, hz⟩ | ⟨hh, A, ca, he, hr⟩
              · clear hent
                go_upto_region 13 with (first | (at_lookup; refine wpList_lookup_own_ok _ rfl _ _ 59 rfl 3 22 law3 Try.underlying59 Rv (zero22 _) (.held (.slice none 0 0)) [] rfl w.heap.size n D rfl hown _ _ rfl HK.out ?_; intro v ps hv; rw [hh]; clear hv) | go_in)
                clear hown hh hc4 hc5
                go_upto_region 14 with (first | ((with_reducible refine gate_dst (N := 70) rfl ?_); refine Kd.R_lit (Kd.int .i64) _ 3 ?hg (N := 70) ?hd (xs := ([0, 0] : List Int)) (inner := [.int .i64 0, .int .i64 0]) (ok := fun _ => True) (okp := fun _ => True) ?hr ?hp (fun _ hk => hk) trivial (Below.refl _ _) (Nat.le_refl _) (by simp) ?_; (case hd => rfl); (case hg => rfl); (case hr => first | (go_simp; done) | (go_simp; rfl)); (case hp => exact (Reps.one (show Kd.M (Kd.int .i64) _ _ _ 0 [.int .i64 0] from rfl) (Reps.one (show Kd.M (Kd.int .i64) _ _ _ 0 [.int .i64 0] from rfl) (Reps.none _ _)))); intro v0 w7 ho hb hg_ hnew_; clear hg_ hnew_; obtain ⟨A, ca, ev⟩ := Kd.R_slice ho; subst ev) | go_in)
                obtain ⟨_, hcl, hcc⟩ := Kd.R_reads' ho
                have KC := Aside0.mk hcc
                have CL := Aside0.mk hcl
                have I5 := Aside0.mk (I4.out.step hb)
                have B5 := Aside0.mk (blk_below B4.out hb)
                rw [hz] at HS
                clear hcl hcc ho hb I4 B4 hz
                refine start_ (n := 16) (S := fun w' => w'.cell? ⟨g, 4, none⟩ = some (.int .i64 e.f4) ∧ w'.cell? ⟨g, 5, none⟩ = some (.int .i64 e.f5)) (ds := [15]) #[false, false, false, false, false, false, false, false, false, false, false, false, false, false, false, false] (by kernel_rfl) rfl rfl ⟨(blk_cell B5.out 4).trans rfl, (blk_cell B5.out 5).trans rfl⟩ (fun hHeld => ?_)
                refine with_tabW tab14 bits14 (fun HT_ HW_ => ?_)
                have I6 := Aside0.mk (I5.out.step (below_drew (Below.refl _ _)))
                have B6 := Aside0.mk (blk_drew B5.out)
                have KC6 := Aside0.mk (Kd.C_drew KC.out)
                clear I5 B5 KC
                generalize w7.drew = w8 at I6 B6 KC6 hHeld ⊢
                refine pure_ (i := 0) (N := some 72) (v := ?_) (a' := ?_) #[true, false, false, false, false, false, false, false, false, false, false, false, false, false, false, false] rfl rfl (any_of HT_.out (by kernel_rfl)) (fun _ _ _ h => h) (Or.inl ⟨by rfl, ?_⟩) ?_ ?_
                rotate_left
                · intro w'
                  go_simp
                  with_reducible rfl
                rotate_left
                · simp only [Act.put, List.setIfInBounds_toArray, List.set_cons_zero, List.set_cons_succ, i64_w, i32_w]
                  rfl
                refine pure_ (i := 1) (N := some 73) (v := ?_) (a' := ?_) #[true, true, false, false, false, false, false, false, false, false, false, false, false, false, false, false] rfl rfl (any_of HT_.out (by kernel_rfl)) (fun _ _ _ h => h) (Or.inl ⟨by rfl, ?_⟩) ?_ ?_
                rotate_left
                · intro w'
                  go_simp
                  with_reducible rfl
                rotate_left
                · simp only [Act.put, List.setIfInBounds_toArray, List.set_cons_zero, List.set_cons_succ, i64_w, i32_w]
                  rfl
                refine pure_ (i := 3) (N := some 75) (v := ?_) (a' := ?_) #[true, true, false, true, false, false, false, false, false, false, false, false, false, false, false, false] rfl rfl (any_of HT_.out (by kernel_rfl)) (fun _ _ _ h => h) (Or.inl ⟨by rfl, ?_⟩) ?_ ?_
                rotate_left
                · intro w'
                  go_simp
                  with_reducible rfl
                rotate_left
                · simp only [Act.put, List.setIfInBounds_toArray, List.set_cons_zero, List.set_cons_succ, i64_w, i32_w]
                  rfl
                refine pure_ (i := 4) (N := some 76) (v := ?_) (a' := ?_) #[true, true, false, true, true, false, false, false, false, false, false, false, false, false, false, false] rfl rfl (any_of HT_.out (by kernel_rfl)) (fun _ _ _ h => h) (Or.inl ⟨by rfl, ?_⟩) ?_ ?_
                rotate_left
                · intro w'
                  go_simp
                  with_reducible rfl
                rotate_left
                · simp only [Act.put, List.setIfInBounds_toArray, List.set_cons_zero, List.set_cons_succ, i64_w, i32_w]
                  rfl
                refine pure_ (i := 5) (N := some 77) (v := ?_) (a' := ?_) #[true, true, false, true, true, true, false, false, false, false, false, false, false, false, false, false] rfl rfl (any_of HT_.out (by kernel_rfl)) (fun _ _ _ h => h) (Or.inl ⟨by rfl, ?_⟩) ?_ ?_
                rotate_left
                · intro w'
                  go_simp
                  with_reducible rfl
                rotate_left
                · simp only [Act.put, List.setIfInBounds_toArray, List.set_cons_zero, List.set_cons_succ, i64_w, i32_w]
                  rfl
                refine pure_ (i := 6) (N := some 78) (v := ?_) (a' := ?_) #[true, true, false, true, true, true, true, false, false, false, false, false, false, false, false, false] rfl rfl (any_of HT_.out (by kernel_rfl)) (fun _ _ _ h => h) (Or.inl ⟨by rfl, ?_⟩) ?_ ?_
                rotate_left
                · intro w'
                  go_simp
                  with_reducible rfl
                rotate_left
                · simp only [Act.put, List.setIfInBounds_toArray, List.set_cons_zero, List.set_cons_succ, i64_w, i32_w]
                  rfl
                refine pure_ (i := 8) (N := some 80) (v := ?_) (a' := ?_) #[true, true, false, true, true, true, true, false, true, false, false, false, false, false, false, false] rfl rfl (any_of HT_.out (by kernel_rfl)) (fun _ _ _ h => h) (Or.inl ⟨by rfl, ?_⟩) ?_ ?_
                rotate_left
                · intro w'
                  go_simp
                  with_reducible rfl
                rotate_left
                · simp only [Act.put, List.setIfInBounds_toArray, List.set_cons_zero, List.set_cons_succ, i64_w, i32_w]
                  rfl
                refine take_ (i := 2) (N := some 74) (v := ?_) (a' := ?_) #[true, true, true, true, true, true, true, false, true, false, false, false, false, false, false, false] rfl rfl (take_ofW HT_.out HW_.out (by kernel_rfl)) (fun _ _ _ h => h) (Or.inl ⟨by rfl, ?_⟩) hHeld ?_ ?_
                rotate_left
                · rintro w' ⟨s0, s1⟩
                  go_simp
                  with_reducible rfl
                rotate_left
                · simp only [Act.put, List.setIfInBounds_toArray, List.set_cons_zero, List.set_cons_succ, i64_w, i32_w]
                  rfl
                refine take_ (i := 9) (N := some 81) (v := ?_) (a' := ?_) #[true, true, true, true, true, true, true, false, true, true, false, false, false, false, false, false] rfl rfl (take_ofW HT_.out HW_.out (by kernel_rfl)) (fun _ _ _ h => h) (Or.inl ⟨by rfl, ?_⟩) hHeld ?_ ?_
                rotate_left
                · rintro w' ⟨s0, s1⟩
                  go_simp
                  with_reducible rfl
                rotate_left
                · simp only [Act.put, List.setIfInBounds_toArray, List.set_cons_zero, List.set_cons_succ, i64_w, i32_w]
                  rfl
                refine one_ (i := 7) (N := some 79) #[true, true, true, true, true, true, true, true, true, true, false, false, false, false, false, false] rfl rfl (one_of HT_.out (by kernel_rfl)) (by decide) (fun K hK => ?_)
                refine value_ (w1 := ?_) (v := ?_) (by rfl) rfl ?_ ?_
                rotate_left 2
                · go_simp
                  constructor
                  · rfl
                  · rfl
                have LT := Aside0.mk (lit2 w8 c t)
                have I7 := Aside0.mk (I6.out.step (below_alloc (Below.refl _ _) (.cells #[.int .i64 c, .int .i64 t] 3)))
                have B7 := Aside0.mk (blk_alloc B6.out (.cells #[.int .i64 c, .int .i64 t] 3))
                have KC7 := Aside0.mk (Kd.C_alloc KC6.out (.cells #[.int .i64 c, .int .i64 t] 3))
                refine hK.out _ _ ⟨(blk_cell B7.out 4).trans rfl, (blk_cell B7.out 5).trans rfl⟩ (fun hHeld => ?_)
                clear hK K
                refine norm_ (a' := ?_) ?_ ?_
                rotate_left
                · show Act.put _ (some 79) _ = _
                  simp only [Act.put, List.setIfInBounds_toArray, List.set_cons_zero, List.set_cons_succ, i64_w, i32_w]
                  rfl
                clear I6 B6 KC6
                generalize w8.alloc (.cells #[.int .i64 c, .int .i64 t] 3) = w9 at I7 B7 KC7 LT hHeld ⊢
                refine one_ (i := 10) (N := some 82) #[true, true, true, true, true, true, true, true, true, true, true, false, false, false, false, false] rfl rfl (one_of HT_.out (by kernel_rfl)) (by decide) (fun K hK => ?_)
                refine goes_ Try.func9 (by kernel_rfl) rfl #[.int .i64 wl, .slice A 2 ca, .slice (some ⟨w8.heap.size, 0, none⟩) 2 2, .int .i64 e.f4] (by rfl) rfl rfl (by (try simp only [List.map_toArray, List.map_cons, List.map_nil]); first | done | rfl) ?_
                have hcall := balance_Step.calls k wl A ca [0, 0] (some ⟨w8.heap.size, 0, none⟩) 2 [c, t] e.f4 r1 r2 w9 KC7.out CL.out LT.out (Nat.le_refl 2) HS.out
                simp only [List.length_cons, List.length_nil, Nat.zero_add, Nat.reduceAdd] at hcall
                refine hcall.mono ?_
                rintro e10 w10 ⟨v10, rfl, ho, hB⟩
                refine ⟨_, rfl, ?_⟩
                have I8 := Aside0.mk (I7.out.step hB)
                have B8 := Aside0.mk (blk_below B7.out hB)
                have RN := Aside0.mk (Kd.R_lower (Kd.R_new' (u := vo) ho (Kd.R_lt I7.out.out)) (below_size I7.out.below))
                clear I7 B7 KC7 LT ho hB
                refine hK.out _ _ ⟨(blk_cell B8.out 4).trans rfl, (blk_cell B8.out 5).trans rfl⟩ (fun hHeld => ?_)
                clear hK K
                refine norm_ (a' := ?_) ?_ ?_
                rotate_left
                · show Act.put _ (some 82) _ = _
                  simp only [Act.put, List.setIfInBounds_toArray, List.set_cons_zero, List.set_cons_succ, i64_w, i32_w]
                  rfl
                obtain ⟨An, cn, en⟩ := Kd.R_slice RN.out
                subst en
                refine pure_ (i := 11) (N := some 71) (v := ?_) (a' := ?_) #[true, true, true, true, true, true, true, true, true, true, true, true, false, false, false, false] rfl rfl (any_of HT_.out (by kernel_rfl)) (fun _ _ _ h => h) (Or.inl ⟨by rfl, ?_⟩) ?_ ?_
                rotate_left
                · intro w'
                  go_simp
                  with_reducible rfl
                rotate_left
                · simp only [Act.put, List.setIfInBounds_toArray, List.set_cons_zero, List.set_cons_succ, i64_w, i32_w]
                  rfl
                refine pure_ (i := 12) (N := some 83) (v := ?_) (a' := ?_) #[true, true, true, true, true, true, true, true, true, true, true, true, true, false, false, false] rfl rfl (any_of HT_.out (by kernel_rfl)) (fun _ _ _ h => h) (Or.inl ⟨by rfl, ?_⟩) ?_ ?_
                rotate_left
                · intro w'
                  go_simp
                  with_reducible rfl
                rotate_left
                · simp only [Act.put, List.setIfInBounds_toArray, List.set_cons_zero, List.set_cons_succ, i64_w, i32_w]
                  rfl
                refine pure_ (i := 13) (N := some 84) (v := ?_) (a' := ?_) #[true, true, true, true, true, true, true, true, true, true, true, true, true, true, false, false] rfl rfl (any_of HT_.out (by kernel_rfl)) (fun _ _ _ h => h) (Or.inl ⟨by rfl, ?_⟩) ?_ ?_
                rotate_left
                · intro w'
                  go_simp
                  with_reducible rfl
                rotate_left
                · simp only [Act.put, List.setIfInBounds_toArray, List.set_cons_zero, List.set_cons_succ, i64_w, i32_w]
                  rfl
                refine pure_ (i := 14) (N := some 6) (v := ?_) (a' := ?_) #[true, true, true, true, true, true, true, true, true, true, true, true, true, true, true, false] rfl rfl (any_of HT_.out (by kernel_rfl)) (fun _ _ _ h => h) (Or.inl ⟨by rfl, ?_⟩) ?_ ?_
                rotate_left
                · intro w'
                  go_simp
                  with_reducible rfl
                rotate_left
                · simp only [Act.put, List.setIfInBounds_toArray, List.set_cons_zero, List.set_cons_succ, i64_w, i32_w]
                  rfl
                refine last_ (i := 15) (N := none) #[true, true, true, true, true, true, true, true, true, true, true, true, true, true, true, true] rfl rfl (one_of HT_.out (by kernel_rfl)) (by decide) (fun K hK => ?_)
                obtain ⟨D, hown, hent⟩ := I8.out.map
                obtain ⟨w11, hrun, hown2, hgrow⟩ := hown.update law3 Try.underlying59 (key := .int .i64 e.f5) (val := .slice An r2.length cn) (d := .held (.slice An r2.length cn)) (ps := []) NL.out HK.out rfl
                refine skip_ (w1 := w11) (by rfl) rfl ?_ ?_
                · go_simp
                have I9 := Aside0.mk (I8.out.put hent (own_map hown) (own_isMap hown) (Kd.R_mono RN.out (fun _ hk => hk.2)) hown2 hgrow)
                refine hK.out _ _ ?_
                clear hK K hown hent hrun hown2 hgrow I8 RN
                refine done_ (done_of HT_.out (by kernel_rfl)) ?_
                go_wp2_with (first | ((with_reducible refine gate_builtin (b := .append) (xs := #[.tmp 85, .tmp 87]) rfl ?_); at_builtin; refine Kd.R_append (Kd.int .i64) (w0 := w) w.heap.size rfl (.tmp 85) (.tmp 87) 22 3 (.int .i64 0) 8 rfl Try.underlying22 info3 rfl (by decide) (by omega) vo out r1 [.int .i64 r1] (fun _ => True) (fun _ => False) rfl rfl ?aP (fun _ hk => hk.elim) ?aF ?aO ?aB ?aS ?aL ?_; (case aP => exact rfl); (case aB => exact I9.out.below); (case aF => exact (fun _ _ => trivial)); (case aO => exact I9.out.out); (case aS => exact below_size I9.out.below); (case aL => have := HO.out; omega); intro vn w12 ho hb hg hat; have I10 := Aside0.mk (I9.out.app ho hb hg hat); clear ho hb hg hat I9))
                go_roundg gk
                case measure => have := HX.out; omega
                case rel =>
                  have f := HX.out
                  have hN := HN.out.1
                  have hl := HLT.out
                  have hw : wrap64 (x + 1) = x + 1 := w64_id' (by omega) (by omega)
                  exact ⟨wrap64 (x + 1), n + 1, r1, updC cnt e.f5 r2, vn, out ++ [r1], rfl, rfl, rfl, ⟨by rw [hw]; omega⟩, ⟨by rw [hw]; exact HP.out⟩, I10⟩
              · clear hent
                go_upto_region 14 with (first | (at_lookup; refine wpList_lookup_own_ok _ rfl _ _ 59 rfl 3 22 law3 Try.underlying59 Rv (zero22 _) (.held (.slice none 0 0)) [] rfl w.heap.size n D rfl hown _ _ rfl HK.out ?_; intro v ps hv; rw [hh]; have ev := Rv_inv hv; rw [he] at ev; injection ev with ev; subst ev; clear hv) | go_in)
                clear he hown hh hc4 hc5
                obtain ⟨_, hcl, hcc⟩ := Kd.R_reads' hr
                clear hr
                have KC := Aside0.mk hcc
                have CL := Aside0.mk hcl
                clear hcl hcc
                have I5 := I4
                have B5 := B4
                clear I4 B4
                generalize w6 = w7 at *
                refine start_ (n := 16) (S := fun w' => w'.cell? ⟨g, 4, none⟩ = some (.int .i64 e.f4) ∧ w'.cell? ⟨g, 5, none⟩ = some (.int .i64 e.f5)) (ds := [15]) #[false, false, false, false, false, false, false, false, false, false, false, false, false, false, false, false] (by kernel_rfl) rfl rfl ⟨(blk_cell B5.out 4).trans rfl, (blk_cell B5.out 5).trans rfl⟩ (fun hHeld => ?_)
                refine with_tabW tab14 bits14 (fun HT_ HW_ => ?_)
                have I6 := Aside0.mk (I5.out.step (below_drew (Below.refl _ _)))
                have B6 := Aside0.mk (blk_drew B5.out)
                have KC6 := Aside0.mk (Kd.C_drew KC.out)
                clear I5 B5 KC
                generalize w7.drew = w8 at I6 B6 KC6 hHeld ⊢
                refine pure_ (i := 0) (N := some 72) (v := ?_) (a' := ?_) #[true, false, false, false, false, false, false, false, false, false, false, false, false, false, false, false] rfl rfl (any_of HT_.out (by kernel_rfl)) (fun _ _ _ h => h) (Or.inl ⟨by rfl, ?_⟩) ?_ ?_
                rotate_left
                · intro w'
                  go_simp
                  with_reducible rfl
                rotate_left
                · simp only [Act.put, List.setIfInBounds_toArray, List.set_cons_zero, List.set_cons_succ, i64_w, i32_w]
                  rfl
                refine pure_ (i := 1) (N := some 73) (v := ?_) (a' := ?_) #[true, true, false, false, false, false, false, false, false, false, false, false, false, false, false, false] rfl rfl (any_of HT_.out (by kernel_rfl)) (fun _ _ _ h => h) (Or.inl ⟨by rfl, ?_⟩) ?_ ?_
                rotate_left
                · intro w'
                  go_simp
                  with_reducible rfl
                rotate_left
                · simp only [Act.put, List.setIfInBounds_toArray, List.set_cons_zero, List.set_cons_succ, i64_w, i32_w]
                  rfl
                refine pure_ (i := 3) (N := some 75) (v := ?_) (a' := ?_) #[true, true, false, true, false, false, false, false, false, false, false, false, false, false, false, false] rfl rfl (any_of HT_.out (by kernel_rfl)) (fun _ _ _ h => h) (Or.inl ⟨by rfl, ?_⟩) ?_ ?_
                rotate_left
                · intro w'
                  go_simp
                  with_reducible rfl
                rotate_left
                · simp only [Act.put, List.setIfInBounds_toArray, List.set_cons_zero, List.set_cons_succ, i64_w, i32_w]
                  rfl
                refine pure_ (i := 4) (N := some 76) (v := ?_) (a' := ?_) #[true, true, false, true, true, false, false, false, false, false, false, false, false, false, false, false] rfl rfl (any_of HT_.out (by kernel_rfl)) (fun _ _ _ h => h) (Or.inl ⟨by rfl, ?_⟩) ?_ ?_
                rotate_left
                · intro w'
                  go_simp
                  with_reducible rfl
                rotate_left
                · simp only [Act.put, List.setIfInBounds_toArray, List.set_cons_zero, List.set_cons_succ, i64_w, i32_w]
                  rfl
                refine pure_ (i := 5) (N := some 77) (v := ?_) (a' := ?_) #[true, true, false, true, true, true, false, false, false, false, false, false, false, false, false, false] rfl rfl (any_of HT_.out (by kernel_rfl)) (fun _ _ _ h => h) (Or.inl ⟨by rfl, ?_⟩) ?_ ?_
                rotate_left
                · intro w'
                  go_simp
                  with_reducible rfl
                rotate_left
                · simp only [Act.put, List.setIfInBounds_toArray, List.set_cons_zero, List.set_cons_succ, i64_w, i32_w]
                  rfl
                refine pure_ (i := 6) (N := some 78) (v := ?_) (a' := ?_) #[true, true, false, true, true, true, true, false, false, false, false, false, false, false, false, false] rfl rfl (any_of HT_.out (by kernel_rfl)) (fun _ _ _ h => h) (Or.inl ⟨by rfl, ?_⟩) ?_ ?_
                rotate_left
                · intro w'
                  go_simp
                  with_reducible rfl
                rotate_left
                · simp only [Act.put, List.setIfInBounds_toArray, List.set_cons_zero, List.set_cons_succ, i64_w, i32_w]
                  rfl
                refine pure_ (i := 8) (N := some 80) (v := ?_) (a' := ?_) #[true, true, false, true, true, true, true, false, true, false, false, false, false, false, false, false] rfl rfl (any_of HT_.out (by kernel_rfl)) (fun _ _ _ h => h) (Or.inl ⟨by rfl, ?_⟩) ?_ ?_
                rotate_left
                · intro w'
                  go_simp
                  with_reducible rfl
                rotate_left
                · simp only [Act.put, List.setIfInBounds_toArray, List.set_cons_zero, List.set_cons_succ, i64_w, i32_w]
                  rfl
                refine take_ (i := 2) (N := some 74) (v := ?_) (a' := ?_) #[true, true, true, true, true, true, true, false, true, false, false, false, false, false, false, false] rfl rfl (take_ofW HT_.out HW_.out (by kernel_rfl)) (fun _ _ _ h => h) (Or.inl ⟨by rfl, ?_⟩) hHeld ?_ ?_
                rotate_left
                · rintro w' ⟨s0, s1⟩
                  go_simp
                  with_reducible rfl
                rotate_left
                · simp only [Act.put, List.setIfInBounds_toArray, List.set_cons_zero, List.set_cons_succ, i64_w, i32_w]
                  rfl
                refine take_ (i := 9) (N := some 81) (v := ?_) (a' := ?_) #[true, true, true, true, true, true, true, false, true, true, false, false, false, false, false, false] rfl rfl (take_ofW HT_.out HW_.out (by kernel_rfl)) (fun _ _ _ h => h) (Or.inl ⟨by rfl, ?_⟩) hHeld ?_ ?_
                rotate_left
                · rintro w' ⟨s0, s1⟩
                  go_simp
                  with_reducible rfl
                rotate_left
                · simp only [Act.put, List.setIfInBounds_toArray, List.set_cons_zero, List.set_cons_succ, i64_w, i32_w]
                  rfl
                refine one_ (i := 7) (N := some 79) #[true, true, true, true, true, true, true, true, true, true, false, false, false, false, false, false] rfl rfl (one_of HT_.out (by kernel_rfl)) (by decide) (fun K hK => ?_)
                refine value_ (w1 := ?_) (v := ?_) (by rfl) rfl ?_ ?_
                rotate_left 2
                · go_simp
                  constructor
                  · rfl
                  · rfl
                have LT := Aside0.mk (lit2 w8 c t)
                have I7 := Aside0.mk (I6.out.step (below_alloc (Below.refl _ _) (.cells #[.int .i64 c, .int .i64 t] 3)))
                have B7 := Aside0.mk (blk_alloc B6.out (.cells #[.int .i64 c, .int .i64 t] 3))
                have KC7 := Aside0.mk (Kd.C_alloc KC6.out (.cells #[.int .i64 c, .int .i64 t] 3))
                refine hK.out _ _ ⟨(blk_cell B7.out 4).trans rfl, (blk_cell B7.out 5).trans rfl⟩ (fun hHeld => ?_)
                clear hK K
                refine norm_ (a' := ?_) ?_ ?_
                rotate_left
                · show Act.put _ (some 79) _ = _
                  simp only [Act.put, List.setIfInBounds_toArray, List.set_cons_zero, List.set_cons_succ, i64_w, i32_w]
                  rfl
                clear I6 B6 KC6
                generalize w8.alloc (.cells #[.int .i64 c, .int .i64 t] 3) = w9 at I7 B7 KC7 LT hHeld ⊢
                refine one_ (i := 10) (N := some 82) #[true, true, true, true, true, true, true, true, true, true, true, false, false, false, false, false] rfl rfl (one_of HT_.out (by kernel_rfl)) (by decide) (fun K hK => ?_)
                refine goes_ Try.func9 (by kernel_rfl) rfl #[.int .i64 wl, .slice A (cnt e.f5).length ca, .slice (some ⟨w8.heap.size, 0, none⟩) 2 2, .int .i64 e.f4] (by rfl) rfl rfl (by (try simp only [List.map_toArray, List.map_cons, List.map_nil]); first | done | rfl) ?_
                have hcall := balance_Step.calls k wl A ca (cnt e.f5) (some ⟨w8.heap.size, 0, none⟩) 2 [c, t] e.f4 r1 r2 w9 KC7.out CL.out LT.out (Nat.le_refl 2) HS.out
                simp only [List.length_cons, List.length_nil, Nat.zero_add, Nat.reduceAdd] at hcall
                refine hcall.mono ?_
                rintro e10 w10 ⟨v10, rfl, ho, hB⟩
                refine ⟨_, rfl, ?_⟩
                have I8 := Aside0.mk (I7.out.step hB)
                have B8 := Aside0.mk (blk_below B7.out hB)
                have RN := Aside0.mk (Kd.R_lower (Kd.R_new' (u := vo) ho (Kd.R_lt I7.out.out)) (below_size I7.out.below))
                clear I7 B7 KC7 LT ho hB
                refine hK.out _ _ ⟨(blk_cell B8.out 4).trans rfl, (blk_cell B8.out 5).trans rfl⟩ (fun hHeld => ?_)
                clear hK K
                refine norm_ (a' := ?_) ?_ ?_
                rotate_left
                · show Act.put _ (some 82) _ = _
                  simp only [Act.put, List.setIfInBounds_toArray, List.set_cons_zero, List.set_cons_succ, i64_w, i32_w]
                  rfl
                obtain ⟨An, cn, en⟩ := Kd.R_slice RN.out
                subst en
                refine pure_ (i := 11) (N := some 71) (v := ?_) (a' := ?_) #[true, true, true, true, true, true, true, true, true, true, true, true, false, false, false, false] rfl rfl (any_of HT_.out (by kernel_rfl)) (fun _ _ _ h => h) (Or.inl ⟨by rfl, ?_⟩) ?_ ?_
                rotate_left
                · intro w'
                  go_simp
                  with_reducible rfl
                rotate_left
                · simp only [Act.put, List.setIfInBounds_toArray, List.set_cons_zero, List.set_cons_succ, i64_w, i32_w]
                  rfl
                refine pure_ (i := 12) (N := some 83) (v := ?_) (a' := ?_) #[true, true, true, true, true, true, true, true, true, true, true, true, true, false, false, false] rfl rfl (any_of HT_.out (by kernel_rfl)) (fun _ _ _ h => h) (Or.inl ⟨by rfl, ?_⟩) ?_ ?_
                rotate_left
                · intro w'
                  go_simp
                  with_reducible rfl
                rotate_left
                · simp only [Act.put, List.setIfInBounds_toArray, List.set_cons_zero, List.set_cons_succ, i64_w, i32_w]
                  rfl
                refine pure_ (i := 13) (N := some 84) (v := ?_) (a' := ?_) #[true, true, true, true, true, true, true, true, true, true, true, true, true, true, false, false] rfl rfl (any_of HT_.out (by kernel_rfl)) (fun _ _ _ h => h) (Or.inl ⟨by rfl, ?_⟩) ?_ ?_
                rotate_left
                · intro w'
                  go_simp
                  with_reducible rfl
                rotate_left
                · simp only [Act.put, List.setIfInBounds_toArray, List.set_cons_zero, List.set_cons_succ, i64_w, i32_w]
                  rfl
                refine pure_ (i := 14) (N := some 6) (v := ?_) (a' := ?_) #[true, true, true, true, true, true, true, true, true, true, true, true, true, true, true, false] rfl rfl (any_of HT_.out (by kernel_rfl)) (fun _ _ _ h => h) (Or.inl ⟨by rfl, ?_⟩) ?_ ?_
                rotate_left
                · intro w'
                  go_simp
                  with_reducible rfl
                rotate_left
                · simp only [Act.put, List.setIfInBounds_toArray, List.set_cons_zero, List.set_cons_succ, i64_w, i32_w]
                  rfl
                refine last_ (i := 15) (N := none) #[true, true, true, true, true, true, true, true, true, true, true, true, true, true, true, true] rfl rfl (one_of HT_.out (by kernel_rfl)) (by decide) (fun K hK => ?_)
                obtain ⟨D, hown, hent⟩ := I8.out.map
                obtain ⟨w11, hrun, hown2, hgrow⟩ := hown.update law3 Try.underlying59 (key := .int .i64 e.f5) (val := .slice An r2.length cn) (d := .held (.slice An r2.length cn)) (ps := []) NL.out HK.out rfl
                refine skip_ (w1 := w11) (by rfl) rfl ?_ ?_
                · go_simp
                have I9 := Aside0.mk (I8.out.put hent (own_map hown) (own_isMap hown) (Kd.R_mono RN.out (fun _ hk => hk.2)) hown2 hgrow)
                refine hK.out _ _ ?_
                clear hK K hown hent hrun hown2 hgrow I8 RN
                refine done_ (done_of HT_.out (by kernel_rfl)) ?_
                go_wp2_with (first | ((with_reducible refine gate_builtin (b := .append) (xs := #[.tmp 85, .tmp 87]) rfl ?_); at_builtin; refine Kd.R_append (Kd.int .i64) (w0 := w) w.heap.size rfl (.tmp 85) (.tmp 87) 22 3 (.int .i64 0) 8 rfl Try.underlying22 info3 rfl (by decide) (by omega) vo out r1 [.int .i64 r1] (fun _ => True) (fun _ => False) rfl rfl ?aP (fun _ hk => hk.elim) ?aF ?aO ?aB ?aS ?aL ?_; (case aP => exact rfl); (case aB => exact I9.out.below); (case aF => exact (fun _ _ => trivial)); (case aO => exact I9.out.out); (case aS => exact below_size I9.out.below); (case aL => have := HO.out; omega); intro vn w12 ho hb hg hat; have I10 := Aside0.mk (I9.out.app ho hb hg hat); clear ho hb hg hat I9))
                go_roundg gk
                case measure => have := HX.out; omega
                case rel =>
                  have f := HX.out
                  have hN := HN.out.1
                  have hl := HLT.out
                  have hw : wrap64 (x + 1) = x + 1 := w64_id' (by omega) (by omega)
                  exact ⟨wrap64 (x + 1), n + 1, r1, updC cnt e.f5 r2, vn, out ++ [r1], rfl, rfl, rfl, ⟨by rw [hw]; omega⟩, ⟨by rw [hw]; exact HP.out⟩, I10⟩
            · have q1 : (e.f4 != 1) = true := by rw [ha]; decide
              have q2 : (e.f4 != 2) = false := by rw [ha]; decide
              have hi : ¬ idx < 0 := by omega
              obtain ⟨ad1, e1, hy0, hy1, hy2⟩ := at_T41 HR1.out idx (by omega) (by have := HI.out; omega)
              cases e1
              replace hy1 := (I3.out.below.cell (World.block_lt_of_cell? w _ hy1)).trans hy1
              replace hy2 := (I3.out.below.cell (World.block_lt_of_cell? w _ hy2)).trans hy2
              have p1 : (0 ≤ idx) = True := eq_true (by omega)
              have p2 : (idx < (l1.length : Int)) = True := eq_true (by have := HI.out; omega)
              have q3 : decide (idx < 0) = false := decide_eq_false (by omega)
              generalize hc : (rd_T41 l1 idx).f1 = c at *
              generalize ht : (rd_T41 l1 idx).f2 = t at *
              have k0 : decide (c < 1) = false := decide_eq_false (by omega)
              have k1 : decide (10000 < c) = false := decide_eq_false (by omega)
              have k2 : decide (t < 1) = false := decide_eq_false (by omega)
              have k3 : decide (10000 < t) = false := decide_eq_false (by omega)
              clear hs1 hi ha hc ht
              have NL := Aside0.mk (show n < maxLen by have := HX.out; have := HN.out; unfold maxLen; omega)
              have HK := Aside0.mk (keyOf_int_mk (P := Try.prog) Try.underlying3 HW.out)
              go_wp2
              go_region_held3 (fun w' => w'.cell? { block := (ad1.add (idx.toNat * 3)).block, off := (ad1.add (idx.toNat * 3)).off + 1 } = some (.int .i64 c) ∧ w'.cell? { block := (ad1.add (idx.toNat * 3)).block, off := (ad1.add (idx.toNat * 3)).off + 2 } = some (.int .i64 t)) (go_keep) (fail)
              have I4 := Aside0.mk (I3.out.step (below_drew (Below.refl _ _)))
              have B4 := Aside0.mk (blk_drew B3.out)
              clear I3 B3 hc4 hc5 hy1 hy2
              generalize w5.drew = w6 at I4 B4 ⊢
              have hc4 : w6.cell? ⟨g, 4, none⟩ = some (.int .i64 e.f4) := (blk_cell B4.out 4).trans rfl
              have hc5 : w6.cell? ⟨g, 5, none⟩ = some (.int .i64 e.f5) := (blk_cell B4.out 5).trans rfl
              obtain ⟨D, hown, hent⟩ := I4.out.map
              rcases hent e.f5 HW.out with ⟨hh, hz⟩ | ⟨hh, A, ca, he, hr⟩
              · clear hent
                go_upto_region 13 with (first | (at_lookup; refine wpList_lookup_own_ok _ rfl _ _ 59 rfl 3 22 law3 Try.underlying59 Rv (zero22 _) (.held (.slice none 0 0)) [] rfl w.heap.size n D rfl hown _ _ rfl HK.out ?_; intro v ps hv; rw [hh]; clear hv) | go_in)
                clear hown hh hc4 hc5
                go_upto_region 14 with (first | ((with_reducible refine gate_dst (N := 70) rfl ?_); refine Kd.R_lit (Kd.int .i64) _ 3 ?hg (N := 70) ?hd (xs := ([0, 0] : List Int)) (inner := [.int .i64 0, .int .i64 0]) (ok := fun _ => True) (okp := fun _ => True) ?hr ?hp (fun _ hk => hk) trivial (Below.refl _ _) (Nat.le_refl _) (by simp) ?_; (case hd => rfl); (case hg => rfl); (case hr => first | (go_simp; done) | (go_simp; rfl)); (case hp => exact (Reps.one (show Kd.M (Kd.int .i64) _ _ _ 0 [.int .i64 0] from rfl) (Reps.one (show Kd.M (Kd.int .i64) _ _ _ 0 [.int .i64 0] from rfl) (Reps.none _ _)))); intro v0 w7 ho hb hg_ hnew_; clear hg_ hnew_; obtain ⟨A, ca, ev⟩ := Kd.R_slice ho; subst ev) | go_in)
                obtain ⟨_, hcl, hcc⟩ := Kd.R_reads' ho
                have KC := Aside0.mk hcc
                have CL := Aside0.mk hcl
                have I5 := Aside0.mk (I4.out.step hb)
                have B5 := Aside0.mk (blk_below B4.out hb)
                rw [hz] at HS
                clear hcl hcc ho hb I4 B4 hz
                refine start_ (n := 16) (S := fun w' => w'.cell? ⟨g, 4, none⟩ = some (.int .i64 e.f4) ∧ w'.cell? ⟨g, 5, none⟩ = some (.int .i64 e.f5)) (ds := [15]) #[false, false, false, false, false, false, false, false, false, false, false, false, false, false, false, false] (by kernel_rfl) rfl rfl ⟨(blk_cell B5.out 4).trans rfl, (blk_cell B5.out 5).trans rfl⟩ (fun hHeld => ?_)
                refine with_tabW tab14 bits14 (fun HT_ HW_ => ?_)
                have I6 := Aside0.mk (I5.out.step (below_drew (Below.refl _ _)))
                have B6 := Aside0.mk (blk_drew B5.out)
                have KC6 := Aside0.mk (Kd.C_drew KC.out)
                clear I5 B5 KC
                generalize w7.drew = w8 at I6 B6 KC6 hHeld ⊢
                refine pure_ (i := 0) (N := some 72) (v := ?_) (a' := ?_) #[true, false, false, false, false, false, false, false, false, false, false, false, false, false, false, false] rfl rfl (any_of HT_.out (by kernel_rfl)) (fun _ _ _ h => h) (Or.inl ⟨by rfl, ?_⟩) ?_ ?_
                rotate_left
                · intro w'
                  go_simp
                  with_reducible rfl
                rotate_left
                · simp only [Act.put, List.setIfInBounds_toArray, List.set_cons_zero, List.set_cons_succ, i64_w, i32_w]
                  rfl
                refine pure_ (i := 1) (N := some 73) (v := ?_) (a' := ?_) #[true, true, false, false, false, false, false, false, false, false, false, false, false, false, false, false] rfl rfl (any_of HT_.out (by kernel_rfl)) (fun _ _ _ h => h) (Or.inl ⟨by rfl, ?_⟩) ?_ ?_
                rotate_left
                · intro w'
                  go_simp
                  with_reducible rfl
                rotate_left
                · simp only [Act.put, List.setIfInBounds_toArray, List.set_cons_zero, List.set_cons_succ, i64_w, i32_w]
                  rfl
                refine pure_ (i := 3) (N := some 75) (v := ?_) (a' := ?_) #[true, true, false, true, false, false, false, false, false, false, false, false, false, false, false, false] rfl rfl (any_of HT_.out (by kernel_rfl)) (fun _ _ _ h => h) (Or.inl ⟨by rfl, ?_⟩) ?_ ?_
                rotate_left
                · intro w'
                  go_simp
                  with_reducible rfl
                rotate_left
                · simp only [Act.put, List.setIfInBounds_toArray, List.set_cons_zero, List.set_cons_succ, i64_w, i32_w]
                  rfl
                refine pure_ (i := 4) (N := some 76) (v := ?_) (a' := ?_) #[true, true, false, true, true, false, false, false, false, false, false, false, false, false, false, false] rfl rfl (any_of HT_.out (by kernel_rfl)) (fun _ _ _ h => h) (Or.inl ⟨by rfl, ?_⟩) ?_ ?_
                rotate_left
                · intro w'
                  go_simp
                  with_reducible rfl
                rotate_left
                · simp only [Act.put, List.setIfInBounds_toArray, List.set_cons_zero, List.set_cons_succ, i64_w, i32_w]
                  rfl
                refine pure_ (i := 5) (N := some 77) (v := ?_) (a' := ?_) #[true, true, false, true, true, true, false, false, false, false, false, false, false, false, false, false] rfl rfl (any_of HT_.out (by kernel_rfl)) (fun _ _ _ h => h) (Or.inl ⟨by rfl, ?_⟩) ?_ ?_
                rotate_left
                · intro w'
                  go_simp
                  with_reducible rfl
                rotate_left
                · simp only [Act.put, List.setIfInBounds_toArray, List.set_cons_zero, List.set_cons_succ, i64_w, i32_w]
                  rfl
                refine pure_ (i := 6) (N := some 78) (v := ?_) (a' := ?_) #[true, true, false, true, true, true, true, false, false, false, false, false, false, false, false, false] rfl rfl (any_of HT_.out (by kernel_rfl)) (fun _ _ _ h => h) (Or.inl ⟨by rfl, ?_⟩) ?_ ?_
                rotate_left
                · intro w'
                  go_simp
                  with_reducible rfl
                rotate_left
                · simp only [Act.put, List.setIfInBounds_toArray, List.set_cons_zero, List.set_cons_succ, i64_w, i32_w]
                  rfl
                refine pure_ (i := 8) (N := some 80) (v := ?_) (a' := ?_) #[true, true, false, true, true, true, true, false, true, false, false, false, false, false, false, false] rfl rfl (any_of HT_.out (by kernel_rfl)) (fun _ _ _ h => h) (Or.inl ⟨by rfl, ?_⟩) ?_ ?_
                rotate_left
                · intro w'
                  go_simp
                  with_reducible rfl
                rotate_left
                · simp only [Act.put, List.setIfInBounds_toArray, List.set_cons_zero, List.set_cons_succ, i64_w, i32_w]
                  rfl
                refine take_ (i := 2) (N := some 74) (v := ?_) (a' := ?_) #[true, true, true, true, true, true, true, false, true, false, false, false, false, false, false, false] rfl rfl (take_ofW HT_.out HW_.out (by kernel_rfl)) (fun _ _ _ h => h) (Or.inl ⟨by rfl, ?_⟩) hHeld ?_ ?_
                rotate_left
                · rintro w' ⟨s0, s1⟩
                  go_simp
                  with_reducible rfl
                rotate_left
                · simp only [Act.put, List.setIfInBounds_toArray, List.set_cons_zero, List.set_cons_succ, i64_w, i32_w]
                  rfl
                refine take_ (i := 9) (N := some 81) (v := ?_) (a' := ?_) #[true, true, true, true, true, true, true, false, true, true, false, false, false, false, false, false] rfl rfl (take_ofW HT_.out HW_.out (by kernel_rfl)) (fun _ _ _ h => h) (Or.inl ⟨by rfl, ?_⟩) hHeld ?_ ?_
                rotate_left
                · rintro w' ⟨s0, s1⟩
                  go_simp
                  with_reducible rfl
                rotate_left
                · simp only [Act.put, List.setIfInBounds_toArray, List.set_cons_zero, List.set_cons_succ, i64_w, i32_w]
                  rfl
                refine one_ (i := 7) (N := some 79) #[true, true, true, true, true, true, true, true, true, true, false, false, false, false, false, false] rfl rfl (one_of HT_.out (by kernel_rfl)) (by decide) (fun K hK => ?_)
                refine value_ (w1 := ?_) (v := ?_) (by rfl) rfl ?_ ?_
                rotate_left 2
                · go_simp
                  constructor
                  · rfl
                  · rfl
                have LT := Aside0.mk (lit2 w8 c t)
                have I7 := Aside0.mk (I6.out.step (below_alloc (Below.refl _ _) (.cells #[.int .i64 c, .int .i64 t] 3)))
                have B7 := Aside0.mk (blk_alloc B6.out (.cells #[.int .i64 c, .int .i64 t] 3))
                have KC7 := Aside0.mk (Kd.C_alloc KC6.out (.cells #[.int .i64 c, .int .i64 t] 3))
                refine hK.out _ _ ⟨(blk_cell B7.out 4).trans rfl, (blk_cell B7.out 5).trans rfl⟩ (fun hHeld => ?_)
                clear hK K
                refine norm_ (a' := ?_) ?_ ?_
                rotate_left
                · show Act.put _ (some 79) _ = _
                  simp only [Act.put, List.setIfInBounds_toArray, List.set_cons_zero, List.set_cons_succ, i64_w, i32_w]
                  rfl
                clear I6 B6 KC6
                generalize w8.alloc (.cells #[.int .i64 c, .int .i64 t] 3) = w9 at I7 B7 KC7 LT hHeld ⊢
                refine one_ (i := 10) (N := some 82) #[true, true, true, true, true, true, true, true, true, true, true, false, false, false, false, false] rfl rfl (one_of HT_.out (by kernel_rfl)) (by decide) (fun K hK => ?_)
                refine goes_ Try.func9 (by kernel_rfl) rfl #[.int .i64 wl, .slice A 2 ca, .slice (some ⟨w8.heap.size, 0, none⟩) 2 2, .int .i64 e.f4] (by rfl) rfl rfl (by (try simp only [List.map_toArray, List.map_cons, List.map_nil]); first | done | rfl) ?_
                have hcall := balance_Step.calls k wl A ca [0, 0] (some ⟨w8.heap.size, 0, none⟩) 2 [c, t] e.f4 r1 r2 w9 KC7.out CL.out LT.out (Nat.le_refl 2) HS.out
                simp only [List.length_cons, List.length_nil, Nat.zero_add, Nat.reduceAdd] at hcall
                refine hcall.mono ?_
                rintro e10 w10 ⟨v10, rfl, ho, hB⟩
                refine ⟨_, rfl, ?_⟩
                have I8 := Aside0.mk (I7.out.step hB)
                have B8 := Aside0.mk (blk_below B7.out hB)
                have RN := Aside0.mk (Kd.R_lower (Kd.R_new' (u := vo) ho (Kd.R_lt I7.out.out)) (below_size I7.out.below))
                clear I7 B7 KC7 LT ho hB
                refine hK.out _ _ ⟨(blk_cell B8.out 4).trans rfl, (blk_cell B8.out 5).trans rfl⟩ (fun hHeld => ?_)
                clear hK K
                refine norm_ (a' := ?_) ?_ ?_
                rotate_left
                · show Act.put _ (some 82) _ = _
                  simp only [Act.put, List.setIfInBounds_toArray, List.set_cons_zero, List.set_cons_succ, i64_w, i32_w]
                  rfl
                obtain ⟨An, cn, en⟩ := Kd.R_slice RN.out
                subst en
                refine pure_ (i := 11) (N := some 71) (v := ?_) (a' := ?_) #[true, true, true, true, true, true, true, true, true, true, true, true, false, false, false, false] rfl rfl (any_of HT_.out (by kernel_rfl)) (fun _ _ _ h => h) (Or.inl ⟨by rfl, ?_⟩) ?_ ?_
                rotate_left
                · intro w'
                  go_simp
                  with_reducible rfl
                rotate_left
                · simp only [Act.put, List.setIfInBounds_toArray, List.set_cons_zero, List.set_cons_succ, i64_w, i32_w]
                  rfl
                refine pure_ (i := 12) (N := some 83) (v := ?_) (a' := ?_) #[true, true, true, true, true, true, true, true, true, true, true, true, true, false, false, false] rfl rfl (any_of HT_.out (by kernel_rfl)) (fun _ _ _ h => h) (Or.inl ⟨by rfl, ?_⟩) ?_ ?_
                rotate_left
                · intro w'
                  go_simp
                  with_reducible rfl
                rotate_left
                · simp only [Act.put, List.setIfInBounds_toArray, List.set_cons_zero, List.set_cons_succ, i64_w, i32_w]
                  rfl
                refine pure_ (i := 13) (N := some 84) (v := ?_) (a' := ?_) #[true, true, true, true, true, true, true, true, true, true, true, true, true, true, false, false] rfl rfl (any_of HT_.out (by kernel_rfl)) (fun _ _ _ h => h) (Or.inl ⟨by rfl, ?_⟩) ?_ ?_
                rotate_left
                · intro w'
                  go_simp
                  with_reducible rfl
                rotate_left
                · simp only [Act.put, List.setIfInBounds_toArray, List.set_cons_zero, List.set_cons_succ, i64_w, i32_w]
                  rfl
                refine pure_ (i := 14) (N := some 6) (v := ?_) (a' := ?_) #[true, true, true, true, true, true, true, true, true, true, true, true, true, true, true, false] rfl rfl (any_of HT_.out (by kernel_rfl)) (fun _ _ _ h => h) (Or.inl ⟨by rfl, ?_⟩) ?_ ?_
                rotate_left
                · intro w'
                  go_simp
                  with_reducible rfl
                rotate_left
                · simp only [Act.put, List.setIfInBounds_toArray, List.set_cons_zero, List.set_cons_succ, i64_w, i32_w]
                  rfl
                refine last_ (i := 15) (N := none) #[true, true, true, true, true, true, true, true, true, true, true, true, true, true, true, true] rfl rfl (one_of HT_.out (by kernel_rfl)) (by decide) (fun K hK => ?_)
                obtain ⟨D, hown, hent⟩ := I8.out.map
                obtain ⟨w11, hrun, hown2, hgrow⟩ := hown.update law3 Try.underlying59 (key := .int .i64 e.f5) (val := .slice An r2.length cn) (d := .held (.slice An r2.length cn)) (ps := []) NL.out HK.out rfl
                refine skip_ (w1 := w11) (by rfl) rfl ?_ ?_
                · go_simp
                have I9 := Aside0.mk (I8.out.put hent (own_map hown) (own_isMap hown) (Kd.R_mono RN.out (fun _ hk => hk.2)) hown2 hgrow)
                refine hK.out _ _ ?_
                clear hK K hown hent hrun hown2 hgrow I8 RN
                refine done_ (done_of HT_.out (by kernel_rfl)) ?_
                go_wp2_with (first | ((with_reducible refine gate_builtin (b := .append) (xs := #[.tmp 85, .tmp 87]) rfl ?_); at_builtin; refine Kd.R_append (Kd.int .i64) (w0 := w) w.heap.size rfl (.tmp 85) (.tmp 87) 22 3 (.int .i64 0) 8 rfl Try.underlying22 info3 rfl (by decide) (by omega) vo out r1 [.int .i64 r1] (fun _ => True) (fun _ => False) rfl rfl ?aP (fun _ hk => hk.elim) ?aF ?aO ?aB ?aS ?aL ?_; (case aP => exact rfl); (case aB => exact I9.out.below); (case aF => exact (fun _ _ => trivial)); (case aO => exact I9.out.out); (case aS => exact below_size I9.out.below); (case aL => have := HO.out; omega); intro vn w12 ho hb hg hat; have I10 := Aside0.mk (I9.out.app ho hb hg hat); clear ho hb hg hat I9))
                go_roundg gk
                case measure => have := HX.out; omega
                case rel =>
                  have f := HX.out
                  have hN := HN.out.1
                  have hl := HLT.out
                  have hw : wrap64 (x + 1) = x + 1 := w64_id' (by omega) (by omega)
                  exact ⟨wrap64 (x + 1), n + 1, r1, updC cnt e.f5 r2, vn, out ++ [r1], rfl, rfl, rfl, ⟨by rw [hw]; omega⟩, ⟨by rw [hw]; exact HP.out⟩, I10⟩
              · clear hent
                go_upto_region 14 with (first | (at_lookup; refine wpList_lookup_own_ok _ rfl _ _ 59 rfl 3 22 law3 Try.underlying59 Rv (zero22 _) (.held (.slice none 0 0)) [] rfl w.heap.size n D rfl hown _ _ rfl HK.out ?_; intro v ps hv; rw [hh]; have ev := Rv_inv hv; rw [he] at ev; injection ev with ev; subst ev; clear hv) | go_in)
                clear he hown hh hc4 hc5
                obtain ⟨_, hcl, hcc⟩ := Kd.R_reads' hr
                clear hr
                have KC := Aside0.mk hcc
                have CL := Aside0.mk hcl
                clear hcl hcc
                have I5 := I4
                have B5 := B4
                clear I4 B4
                generalize w6 = w7 at *
                refine start_ (n := 16) (S := fun w' => w'.cell? ⟨g, 4, none⟩ = some (.int .i64 e.f4) ∧ w'.cell? ⟨g, 5, none⟩ = some (.int .i64 e.f5)) (ds := [15]) #[false, false, false, false, false, false, false, false, false, false, false, false, false, false, false, false] (by kernel_rfl) rfl rfl ⟨(blk_cell B5.out 4).trans rfl, (blk_cell B5.out 5).trans rfl⟩ (fun hHeld => ?_)
                refine with_tabW tab14 bits14 (fun HT_ HW_ => ?_)
                have I6 := Aside0.mk (I5.out.step (below_drew (Below.refl _ _)))
                have B6 := Aside0.mk (blk_drew B5.out)
                have KC6 := Aside0.mk (Kd.C_drew KC.out)
                clear I5 B5 KC
                generalize w7.drew = w8 at I6 B6 KC6 hHeld ⊢
                refine pure_ (i := 0) (N := some 72) (v := ?_) (a' := ?_) #[true, false, false, false, false, false, false, false, false, false, false, false, false, false, false, false] rfl rfl (any_of HT_.out (by kernel_rfl)) (fun _ _ _ h => h) (Or.inl ⟨by rfl, ?_⟩) ?_ ?_
                rotate_left
                · intro w'
                  go_simp
                  with_reducible rfl
                rotate_left
                · simp only [Act.put, List.setIfInBounds_toArray, List.set_cons_zero, List.set_cons_succ, i64_w, i32_w]
                  rfl
                refine pure_ (i := 1) (N := some 73) (v := ?_) (a' := ?_) #[true, true, false, false, false, false, false, false, false, false, false, false, false, false, false, false] rfl rfl (any_of HT_.out (by kernel_rfl)) (fun _ _ _ h => h) (Or.inl ⟨by rfl, ?_⟩) ?_ ?_
                rotate_left
                · intro w'
                  go_simp
                  with_reducible rfl
                rotate_left
                · simp only [Act.put, List.setIfInBounds_toArray, List.set_cons_zero, List.set_cons_succ, i64_w, i32_w]
                  rfl
                refine pure_ (i := 3) (N := some 75) (v := ?_) (a' := ?_) #[true, true, false, true, false, false, false, false, false, false, false, false, false, false, false, false] rfl rfl (any_of HT_.out (by kernel_rfl)) (fun _ _ _ h => h) (Or.inl ⟨by rfl, ?_⟩) ?_ ?_
                rotate_left
                · intro w'
                  go_simp
                  with_reducible rfl
                rotate_left
                · simp only [Act.put, List.setIfInBounds_toArray, List.set_cons_zero, List.set_cons_succ, i64_w, i32_w]
                  rfl
                refine pure_ (i := 4) (N := some 76) (v := ?_) (a' := ?_) #[true, true, false, true, true, false, false, false, false, false, false, false, false, false, false, false] rfl rfl (any_of HT_.out (by kernel_rfl)) (fun _ _ _ h => h) (Or.inl ⟨by rfl, ?_⟩) ?_ ?_
                rotate_left
                · intro w'
                  go_simp
                  with_reducible rfl
                rotate_left
                · simp only [Act.put, List.setIfInBounds_toArray, List.set_cons_zero, List.set_cons_succ, i64_w, i32_w]
                  rfl
                refine pure_ (i := 5) (N := some 77) (v := ?_) (a' := ?_) #[true, true, false, true, true, true, false, false, false, false, false, false, false, false, false, false] rfl rfl (any_of HT_.out (by kernel_rfl)) (fun _ _ _ h => h) (Or.inl ⟨by rfl, ?_⟩) ?_ ?_
                rotate_left
                · intro w'
                  go_simp
                  with_reducible rfl
                rotate_left
                · simp only [Act.put, List.setIfInBounds_toArray, List.set_cons_zero, List.set_cons_succ, i64_w, i32_w]
                  rfl
                refine pure_ (i := 6) (N := some 78) (v := ?_) (a' := ?_) #[true, true, false, true, true, true, true, false, false, false, false, false, false, false, false, false] rfl rfl (any_of HT_.out (by kernel_rfl)) (fun _ _ _ h => h) (Or.inl ⟨by rfl, ?_⟩) ?_ ?_
                rotate_left
                · intro w'
                  go_simp
                  with_reducible rfl
                rotate_left
                · simp only [Act.put, List.setIfInBounds_toArray, List.set_cons_zero, List.set_cons_succ, i64_w, i32_w]
                  rfl
                refine pure_ (i := 8) (N := some 80) (v := ?_) (a' := ?_) #[true, true, false, true, true, true, true, false, true, false, false, false, false, false, false, false] rfl rfl (any_of HT_.out (by kernel_rfl)) (fun _ _ _ h => h) (Or.inl ⟨by rfl, ?_⟩) ?_ ?_
                rotate_left
                · intro w'
                  go_simp
                  with_reducible rfl
                rotate_left
                · simp only [Act.put, List.setIfInBounds_toArray, List.set_cons_zero, List.set_cons_succ, i64_w, i32_w]
                  rfl
                refine take_ (i := 2) (N := some 74) (v := ?_) (a' := ?_) #[true, true, true, true, true, true, true, false, true, false, false, false, false, false, false, false] rfl rfl (take_ofW HT_.out HW_.out (by kernel_rfl)) (fun _ _ _ h => h) (Or.inl ⟨by rfl, ?_⟩) hHeld ?_ ?_
                rotate_left
                · rintro w' ⟨s0, s1⟩
                  go_simp
                  with_reducible rfl
                rotate_left
                · simp only [Act.put, List.setIfInBounds_toArray, List.set_cons_zero, List.set_cons_succ, i64_w, i32_w]
                  rfl
                refine take_ (i := 9) (N := some 81) (v := ?_) (a' := ?_) #[true, true, true, true, true, true, true, false, true, true, false, false, false, false, false, false] rfl rfl (take_ofW HT_.out HW_.out (by kernel_rfl)) (fun _ _ _ h => h) (Or.inl ⟨by rfl, ?_⟩) hHeld ?_ ?_
                rotate_left
                · rintro w' ⟨s0, s1⟩
                  go_simp
                  with_reducible rfl
                rotate_left
                · simp only [Act.put, List.setIfInBounds_toArray, List.set_cons_zero, List.set_cons_succ, i64_w, i32_w]
                  rfl
                refine one_ (i := 7) (N := some 79) #[true, true, true, true, true, true, true, true, true, true, false, false, false, false, false, false] rfl rfl (one_of HT_.out (by kernel_rfl)) (by decide) (fun K hK => ?_)
                refine value_ (w1 := ?_) (v := ?_) (by rfl) rfl ?_ ?_
                rotate_left 2
                · go_simp
                  constructor
                  · rfl
                  · rfl
                have LT := Aside0.mk (lit2 w8 c t)
                have I7 := Aside0.mk (I6.out.step (below_alloc (Below.refl _ _) (.cells #[.int .i64 c, .int .i64 t] 3)))
                have B7 := Aside0.mk (blk_alloc B6.out (.cells #[.int .i64 c, .int .i64 t] 3))
                have KC7 := Aside0.mk (Kd.C_alloc KC6.out (.cells #[.int .i64 c, .int .i64 t] 3))
                refine hK.out _ _ ⟨(blk_cell B7.out 4).trans rfl, (blk_cell B7.out 5).trans rfl⟩ (fun hHeld => ?_)
                clear hK K
                refine norm_ (a' := ?_) ?_ ?_
                rotate_left
                · show Act.put _ (some 79) _ = _
                  simp only [Act.put, List.setIfInBounds_toArray, List.set_cons_zero, List.set_cons_succ, i64_w, i32_w]
                  rfl
                clear I6 B6 KC6
                generalize w8.alloc (.cells #[.int .i64 c, .int .i64 t] 3) = w9 at I7 B7 KC7 LT hHeld ⊢
                refine one_ (i := 10) (N := some 82) #[true, true, true, true, true, true, true, true, true, true, true, false, false, false, false, false] rfl rfl (one_of HT_.out (by kernel_rfl)) (by decide) (fun K hK => ?_)
                refine goes_ Try.func9 (by kernel_rfl) rfl #[.int .i64 wl, .slice A (cnt e.f5).length ca, .slice (some ⟨w8.heap.size, 0, none⟩) 2 2, .int .i64 e.f4] (by rfl) rfl rfl (by (try simp only [List.map_toArray, List.map_cons, List.map_nil]); first | done | rfl) ?_
                have hcall := balance_Step.calls k wl A ca (cnt e.f5) (some ⟨w8.heap.size, 0, none⟩) 2 [c, t] e.f4 r1 r2 w9 KC7.out CL.out LT.out (Nat.le_refl 2) HS.out
                simp only [List.length_cons, List.length_nil, Nat.zero_add, Nat.reduceAdd] at hcall
                refine hcall.mono ?_
                rintro e10 w10 ⟨v10, rfl, ho, hB⟩
                refine ⟨_, rfl, ?_⟩
                have I8 := Aside0.mk (I7.out.step hB)
                have B8 := Aside0.mk (blk_below B7.out hB)
                have RN := Aside0.mk (Kd.R_lower (Kd.R_new' (u := vo) ho (Kd.R_lt I7.out.out)) (below_size I7.out.below))
                clear I7 B7 KC7 LT ho hB
                refine hK.out _ _ ⟨(blk_cell B8.out 4).trans rfl, (blk_cell B8.out 5).trans rfl⟩ (fun hHeld => ?_)
                clear hK K
                refine norm_ (a' := ?_) ?_ ?_
                rotate_left
                · show Act.put _ (some 82) _ = _
                  simp only [Act.put, List.setIfInBounds_toArray, List.set_cons_zero, List.set_cons_succ, i64_w, i32_w]
                  rfl
                obtain ⟨An, cn, en⟩ := Kd.R_slice RN.out
                subst en
                refine pure_ (i := 11) (N := some 71) (v := ?_) (a' := ?_) #[true, true, true, true, true, true, true, true, true, true, true, true, false, false, false, false] rfl rfl (any_of HT_.out (by kernel_rfl)) (fun _ _ _ h => h) (Or.inl ⟨by rfl, ?_⟩) ?_ ?_
                rotate_left
                · intro w'
                  go_simp
                  with_reducible rfl
                rotate_left
                · simp only [Act.put, List.setIfInBounds_toArray, List.set_cons_zero, List.set_cons_succ, i64_w, i32_w]
                  rfl
                refine pure_ (i := 12) (N := some 83) (v := ?_) (a' := ?_) #[true, true, true, true, true, true, true, true, true, true, true, true, true, false, false, false] rfl rfl (any_of HT_.out (by kernel_rfl)) (fun _ _ _ h => h) (Or.inl ⟨by rfl, ?_⟩) ?_ ?_
                rotate_left
                · intro w'
                  go_simp
                  with_reducible rfl
                rotate_left
                · simp only [Act.put, List.setIfInBounds_toArray, List.set_cons_zero, List.set_cons_succ, i64_w, i32_w]
                  rfl
                refine pure_ (i := 13) (N := some 84) (v := ?_) (a' := ?_) #[true, true, true, true, true, true, true, true, true, true, true, true, true, true, false, false] rfl rfl (any_of HT_.out (by kernel_rfl)) (fun _ _ _ h => h) (Or.inl ⟨by rfl, ?_⟩) ?_ ?_
                rotate_left
                · intro w'
                  go_simp
                  with_reducible rfl
                rotate_left
                · simp only [Act.put, List.setIfInBounds_toArray, List.set_cons_zero, List.set_cons_succ, i64_w, i32_w]
                  rfl
                refine pure_ (i := 14) (N := some 6) (v := ?_) (a' := ?_) #[true, true, true, true, true, true, true, true, true, true, true, true, true, true, true, false] rfl rfl (any_of HT_.out (by kernel_rfl)) (fun _ _ _ h => h) (Or.inl ⟨by rfl, ?_⟩) ?_ ?_
                rotate_left
                · intro w'
                  go_simp
                  with_reducible rfl
                rotate_left
                · simp only [Act.put, List.setIfInBounds_toArray, List.set_cons_zero, List.set_cons_succ, i64_w, i32_w]
                  rfl
                refine last_ (i := 15) (N := none) #[true, true, true, true, true, true, true, true, true, true, true, true, true, true, true, true] rfl rfl (one_of HT_.out (by kernel_rfl)) (by decide) (fun K hK => ?_)
                obtain ⟨D, hown, hent⟩ := I8.out.map
                obtain ⟨w11, hrun, hown2, hgrow⟩ := hown.update law3 Try.underlying59 (key := .int .i64 e.f5) (val := .slice An r2.length cn) (d := .held (.slice An r2.length cn)) (ps := []) NL.out HK.out rfl
                refine skip_ (w1 := w11) (by rfl) rfl ?_ ?_
                · go_simp
                have I9 := Aside0.mk (I8.out.put hent (own_map hown) (own_isMap hown) (Kd.R_mono RN.out (fun _ hk => hk.2)) hown2 hgrow)
                refine hK.out _ _ ?_
                clear hK K hown hent hrun hown2 hgrow I8 RN
                refine done_ (done_of HT_.out (by kernel_rfl)) ?_
                go_wp2_with (first | ((with_reducible refine gate_builtin (b := .append) (xs := #[.tmp 85, .tmp 87]) rfl ?_); at_builtin; refine Kd.R_append (Kd.int .i64) (w0 := w) w.heap.size rfl (.tmp 85) (.tmp 87) 22 3 (.int .i64 0) 8 rfl Try.underlying22 info3 rfl (by decide) (by omega) vo out r1 [.int .i64 r1] (fun _ => True) (fun _ => False) rfl rfl ?aP (fun _ hk => hk.elim) ?aF ?aO ?aB ?aS ?aL ?_; (case aP => exact rfl); (case aB => exact I9.out.below); (case aF => exact (fun _ _ => trivial)); (case aO => exact I9.out.out); (case aS => exact below_size I9.out.below); (case aL => have := HO.out; omega); intro vn w12 ho hb hg hat; have I10 := Aside0.mk (I9.out.app ho hb hg hat); clear ho hb hg hat I9))
                go_roundg gk
                case measure => have := HX.out; omega
                case rel =>
                  have f := HX.out
                  have hN := HN.out.1
                  have hl := HLT.out
                  have hw : wrap64 (x + 1) = x + 1 := w64_id' (by omega) (by omega)
                  exact ⟨wrap64 (x + 1), n + 1, r1, updC cnt e.f5 r2, vn, out ++ [r1], rfl, rfl, rfl, ⟨by rw [hw]; omega⟩, ⟨by rw [hw]; exact HP.out⟩, I10⟩
      · have hx : x = l0.length := by have := HX.out; omega
        have hp := HP.out
        rw [hx, Int.toNat_natCast, List.drop_length] at hp
        simp only [balP, Option.some.injEq] at hp
        subst hp
        clear hx HP
        have d0 : decide (x < (l0.length : Int)) = false := decide_eq_false hlt
        obtain ⟨Ao, co, eo⟩ := Kd.R_slice I0.out.out
        subst eo
        go_wp2
        go_ret
        exact ⟨_, rfl, I0.out.out, I0.out.below⟩
  · rw [if_neg hlen] at h
    cases h
end Go.Proofs.Ythkgjkmcmkpkcaa.PA
