/- By hand: the closure of Path; slices.IndexFunc over it. -/
import Derived.Test.YthkgjkmcmkpkcaaPA2
import Derived.Maps.OwnSet
import Derived.Maps.OwnOps
import Derived.Maps.Own
import Derived.Shelf.Abstract
namespace Go.Proofs.Ythkgjkmcmkpkcaa.PA
open Go Go.RowKit Go.Maps Go.Proofs.YthkgjkmcmkpkcaaW.PrintWords Go.Proofs.YthkgjkmcmkpkcaaW.PrintLast Go.Proofs.YthkgjkmcmkpkcaaW.PrintMore
set_option linter.unusedVariables false
set_option linter.unusedSimpArgs false

theorem eg28 (args : Array Value) (w : World) : (callFunc 28 args).run Try.prog w = .ok (.enter 28 args) w := by rfl
set_option maxHeartbeats 2000000 in
set_option maxRecDepth 100000 in
theorem clos_calls {W : World} {ge : Nat} {a b c ver : Int} (h : W.cell? ⟨ge, 5, none⟩ = some (.int .i64 ver)) :
    Calls Try.prog 28 #[.agg #[.int .i64 a, .int .i64 b, .int .i64 c], .pointer (some ⟨ge, 0, none⟩)] W fun r W' => r = .returned (.bool (a == ver)) ∧ Below W.heap.size W W' := by
  have hu41 := Try.underlying41
  have hu47 := Try.underlying47
  have h5 : (W.alloc (.cells #[.int .i64 a, .int .i64 b, .int .i64 c] 41)).cell? ⟨ge, 5, none⟩ = some (.int .i64 ver) := by
    have hlt := World.block_lt_of_cell? _ _ h
    exact (((Below.refl W.heap.size W).alloc (Nat.le_refl _) _).cell hlt).trans h
  go_enter Try.func28, Try.ntmps28
  go_wp2
  go_ret
  exact ⟨rfl, (Below.refl _ _).alloc (Nat.le_refl _) _⟩

theorem w64_id' {x : Int} (h0 : -9223372036854775808 ≤ x) (h1 : x < 9223372036854775808) : wrap64 x = x := by unfold wrap64; omega
/-- The first element with a version, or -1. -/
def idxS (v : Int) : Nat → List S41 → Int
  | _, [] => -1
  | i, y :: l => if y.f0 = v then (i : Int) else idxS v (i + 1) l
theorem idxS_drop (v : Int) (l : List S41) (i : Nat) (h : i < l.length) : idxS v i (l.drop i) = if l[i].f0 = v then (i : Int) else idxS v (i + 1) (l.drop (i + 1)) := by
  rw [List.drop_eq_getElem_cons h]; rfl
theorem rd_W41 {xs : List S41} {i : Nat} (h : i < xs.length) : rd_T41 xs (i : Int) = xs[i] := by
  unfold rd_T41
  simp [h]
set_option maxHeartbeats 4000000 in
set_option maxRecDepth 100000 in
theorem idx_calls {w : World} {A : Option Addr} {c : Nat} {l : List S41} {ge : Nat} {ver : Int} (hlen : l.length < 1000000) (hr : Kd.C k41 w A l.length l) (hc : l.length ≤ c) (h5 : w.cell? ⟨ge, 5, none⟩ = some (.int .i64 ver)) :
    Calls Try.prog 27 #[.slice A l.length c, .func (.func 28) #[] #[.pointer (some ⟨ge, 0, none⟩)]] w fun e w' => e = .returned (.int .i64 (idxS ver 0 l)) ∧ Below w.heap.size w w' := by
  have hu36 := Try.underlying36
  have hu41 := Try.underlying41
  have hu61 := Try.underlying61
  have HR := Aside0.mk hr
  have HC := Aside0.mk hc
  have H5 := Aside0.mk h5
  have HN := Aside0.mk hlen
  clear hr hc h5 hlen
  go_enter Try.func27, Try.ntmps27
  go_wp2
  go_loopg [8] (l.length + 1) (fun kx s8 wr => ∃ x : Int, s8 = .int .i64 x ∧ Aside0 (0 ≤ x ∧ x ≤ l.length ∧ (l.length : Int) < x + kx) ∧ Aside0 (idxS ver 0 l = idxS ver x.toNat (l.drop x.toNat)) ∧ Aside0 (Below w.heap.size w wr))
  case atStart => exact ⟨0, rfl, ⟨by omega⟩, ⟨by simp⟩, ⟨Below.refl _ _⟩⟩
  case round =>
    obtain ⟨x, rfl, HX, HI, HB⟩ := hrel
    by_cases hlt : x < (l.length : Int)
    · cases gk with
      | zero => have := HX.out; omega
      | succ gk =>
        have p0 : 0 ≤ x := HX.out.1
        have hd := HI.out
        obtain ⟨i, rfl⟩ := Int.eq_ofNat_of_zero_le p0
        have hli : i < l.length := by omega
        rw [Int.toNat_natCast, idxS_drop ver l i hli, ← rd_W41 hli] at hd
        obtain ⟨x, hx⟩ : ∃ x : Int, x = (i : Int) := ⟨_, rfl⟩
        rw [← hx] at hd hlt p0 ⊢
        have HD := Aside0.mk hd
        have HE := Aside0.mk hx
        clear hd HI hx
        have eg := eg28
        obtain ⟨ad, e0, hx0, hx1, hx2⟩ := at_T41 HR.out x p0 hlt
        cases e0
        replace hx0 := (HB.out.cell (World.block_lt_of_cell? w _ hx0)).trans hx0
        replace hx1 := (HB.out.cell (World.block_lt_of_cell? w _ hx1)).trans hx1
        replace hx2 := (HB.out.cell (World.block_lt_of_cell? w _ hx2)).trans hx2
        have hv : wr.cell? ⟨ge, 5, none⟩ = some (.int .i64 ver) := (HB.out.cell (World.block_lt_of_cell? w _ H5.out)).trans H5.out
        have hcl := Aside0.mk (fun a b c : Int => clos_calls (a := a) (b := b) (c := c) hv)
        have F0 : Aside0 (x < l.length ∧ (l.length : Int) < x + (gk + 1) ∧ 0 ≤ x ∧ i < l.length) := ⟨by have := HX.out; have := HE.out; omega⟩
        have c0 : decide (x < (l.length : Int)) = true := decide_eq_true hlt
        replace p0 := eq_true p0
        replace hlt := eq_true hlt
        clear hv HX hli
        by_cases hb : (rd_T41 l x).f0 = ver
        · have hbb : ((rd_T41 l x).f0 == ver) = true := by simpa using hb
          have hfin := HD.out
          rw [if_pos hb] at hfin
          have HF := Aside0.mk hfin
          clear hfin HD hb
          go_wp2_with (first
            | (go_at_fn 28; refine (hcl.out _ _ _).mono ?_; rw [hbb]; rintro e w' ⟨rfl, hB1⟩)
            | go_in)
          go_ret
          exact ⟨by rw [HF.out]; rfl, below_step HB.out hB1⟩
        · have hbb : ((rd_T41 l x).f0 == ver) = false := by simpa using hb
          have hfin := HD.out
          rw [if_neg hb] at hfin
          have HF := Aside0.mk hfin
          clear hfin HD hb
          go_wp2_with (first
            | (go_at_fn 28; refine (hcl.out _ _ _).mono ?_; rw [hbb]; rintro e w' ⟨rfl, hB1⟩)
            | go_in)
          go_roundg gk
          case measure => have := F0.out; omega
          case rel =>
            have f := F0.out
            have hN := HN.out
            have h := HE.out
            have hw : wrap64 (x + 1) = x + 1 := w64_id' (by omega) (by omega)
            refine ⟨wrap64 (x + 1), rfl, ⟨by rw [hw]; exact ⟨by omega, by omega, by omega⟩⟩, ⟨?_⟩, ⟨below_step HB.out hB1⟩⟩
            rw [hw, show (x + 1).toNat = i + 1 by omega]
            exact HF.out
    · have hd := HI.out
      rw [List.drop_of_length_le (by have := HX.out; omega)] at hd
      have HD := Aside0.mk hd
      have c0 : decide (x < (l.length : Int)) = false := decide_eq_false hlt
      clear hd HI hlt HX
      go_wp2
      go_ret
      exact ⟨by rw [HD.out]; rfl, HB.out⟩
end Go.Proofs.Ythkgjkmcmkpkcaa.PA
