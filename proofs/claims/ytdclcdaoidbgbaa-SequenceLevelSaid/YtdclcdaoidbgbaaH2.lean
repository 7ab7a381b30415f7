/- By hand: sort.Search over a closure that writes. -/
import Derived.Test.YtdclcdaoidbgbaaH1
import Derived.Shelf.Abstract
namespace Go.Proofs.Ytdclcdaoidbgbaa.PA
open Go Go.RowKit Go.Maps Go.Proofs.YtdclcdaoidbgbaaW.PrintWords Go.Proofs.YtdclcdaoidbgbaaW.PrintLast Go.Proofs.YtdclcdaoidbgbaaW.PrintMore
set_option linter.unusedVariables false

/-- What sort.Search does: as long as lo < hi, the half in which the first true may lie. -/
def srch.f (g : Int → Option Bool) : Nat → Int → Int → Option Int
  | 0, lo, hi => if lo < hi then none else some lo
  | fuel + 1, lo, hi => if lo < hi then (g ((lo + hi) / 2)).bind fun t => (if t = true then srch.f g fuel lo ((lo + hi) / 2) else srch.f g fuel ((lo + hi) / 2 + 1) hi) else some lo

set_option maxHeartbeats 4000000 in
set_option maxRecDepth 1000000 in
theorem search_calls {g : Int → Option Bool} (fn : Nat) (eg : ∀ args w, (callFunc fn args).run Try.prog w = .ok (.enter fn args) w) {cb : Array Value} {n : Nat} {w : World} {fuel : Nat} {r : Int} (Inv : Nat → World → Prop) (hn : n < 1000000)
    (hdraw : ∀ j W m, Inv j W → Inv j (W.drewN m)) (hmono : ∀ j j' W, j ≤ j' → Inv j W → Inv j' W)
    (hf : ∀ (j : Nat) (W : World) (i : Int) (t : Bool), j < n → 0 ≤ i → i < n → g i = some t → Inv j W → Calls Try.prog fn (#[.int .i64 i] ++ cb) W fun e W' => e = .returned (.bool t) ∧ Inv (j + 1) W')
    (hw : Inv 0 w) (h : srch.f g fuel 0 n = some r) :
    Calls Try.prog 34 #[.int .i64 n, .func (.func fn) #[] cb] w fun e w' => e = .returned (.int .i64 r) ∧ Inv n w' := by
  have HF := Aside0.mk hf
  have HD := Aside0.mk hdraw
  have HM := Aside0.mk hmono
  have HW := Aside0.mk hw
  have H := Aside0.mk h
  clear hf hdraw hmono hw h
  have hu3 := Try.underlying3
  have hu85 := Try.underlying85
  have hu4 := Try.underlying4
  go_enter Try.func34, Try.ntmps34
  go_wp2
  go_loopg [5, 6] fuel (fun kx s5 s6 wr => ∃ (lo hi j : Nat), s5 = .int .i64 lo ∧ s6 = .int .i64 hi ∧ lo ≤ hi ∧ hi ≤ n ∧ j + (hi - lo) ≤ n ∧ Aside0 (Inv j wr) ∧ Aside0 (srch.f g kx lo hi = some r))
  case atStart => exact ⟨0, n, 0, rfl, rfl, Nat.zero_le _, Nat.le_refl _, by omega, HW, H⟩
  case round =>
    obtain ⟨lo, hi, j, rfl, rfl, hlh, hin, hj, HI, HS⟩ := hrel
    by_cases hlt : lo < hi
    · cases gk with
      | zero =>
        have h0 := HS.out
        unfold srch.f at h0
        rw [if_pos (by omega)] at h0
        cases h0
      | succ gk =>
        have h0 := HS.out
        unfold srch.f at h0
        rw [if_pos (by omega)] at h0
        obtain ⟨t, ht, h1⟩ := Option.bind_eq_some_iff.mp h0
        have hc := HF.out j wr (((lo : Int) + (hi : Int)) / 2) t (by omega) (by omega) (by omega) ht HI.out
        clear HS h0 ht
        cases t with
        | true =>
          rw [if_pos rfl] at h1
          have H1 := Aside0.mk h1
          clear h1
          go_wp2_with (go_at_fn fn; refine hc.mono ?_; rintro e w' ⟨rfl, hI1⟩)
          go_roundg gk
          case measure => omega
          case rel => exact ⟨lo, (lo + hi) / 2, j + 1, rfl, by rw [show ((lo : Int) + (hi : Int)) / 2 = (((lo + hi) / 2 : Nat) : Int) by omega], by omega, by omega, by omega, Aside0.mk hI1, Aside0.mk (by rw [show (((lo + hi) / 2 : Nat) : Int) = ((lo : Int) + (hi : Int)) / 2 by omega]; exact H1.out)⟩
        | false =>
          rw [if_neg (by decide)] at h1
          have H1 := Aside0.mk h1
          clear h1
          go_wp2_with (go_at_fn fn; refine hc.mono ?_; rintro e w' ⟨rfl, hI1⟩)
          go_roundg gk
          case measure => omega
          case rel => exact ⟨(lo + hi) / 2 + 1, hi, j + 1, by rw [show ((lo : Int) + (hi : Int)) / 2 + 1 = (((lo + hi) / 2 + 1 : Nat) : Int) by omega], rfl, by omega, by omega, by omega, Aside0.mk hI1, Aside0.mk (by rw [show (((lo + hi) / 2 + 1 : Nat) : Int) = ((lo : Int) + (hi : Int)) / 2 + 1 by omega]; exact H1.out)⟩
    · obtain rfl : hi = lo := by omega
      have h0 : some (hi : Int) = some r := by
        have h0 := HS.out
        unfold srch.f at h0
        split at h0
        · rw [if_neg (by omega)] at h0; exact h0
        · rw [if_neg (by omega)] at h0; exact h0
      obtain rfl := Option.some.inj h0
      go_wp2
      go_ret
      exact ⟨rfl, HM.out _ _ _ (by omega) HI.out⟩
end Go.Proofs.Ytdclcdaoidbgbaa.PA
