-- Written by a program of this seat's session (wip/tools/ownprint.py, over the kit's printer) out of the translation: functions and their contracts.
import Derived.Test.YtafcnpfhihnmgaaPA0
import Derived.Test.YtafcnpfhihnmgaaPA2
namespace Go.Proofs.Ytafcnpfhihnmgaa.PA
open Go.RowKit Go.Proofs.YtafcnpfhihnmgaaW.PrintWords Go.Proofs.YtafcnpfhihnmgaaW.PrintLast Go.Proofs.YtafcnpfhihnmgaaW.PrintMore
attribute [local go_sem] max2_int min2_int max_two min_two max_three min_three max_four min_four   -- for this text's walks alone
set_option linter.unusedVariables false
set_option linter.unusedSimpArgs false

/-! ### flagstonelaw40_WealthGrows: function 3 -/
def flagstonelaw40_WealthGrows.f (k : Nat) (a0 : Int) (a1 : Int) (a2 : Int) (a3 : Int) (a4 : Int) (a5 : Int) : Option (Bool) := (flagstonelaw40_awake.f k).bind fun t118 => (if t118 = true then (if 0 ≤ (Int.tmod a3 62) then (if 0 ≤ (Int.tmod a4 62) then (if 0 ≤ (Int.tmod a5 62) then ((wealth_Grow.f k a0 a1 a2).bind fun t119 => ((flagstoneref40_Grow.f k a0 a1 a2).bind fun t120 => (if t119 = t120 then ((wealth_Grow.f k (mn (shr .i64 (wrap64 ((IntKind.u64.wrap (a0)) / 2)) (Int.tmod a3 62)) 2305843009213693952) (shr .i64 (wrap64 ((IntKind.u64.wrap (a1)) / 2)) (Int.tmod a4 62)) (wrap64 (1 + (shr .i64 (wrap64 ((IntKind.u64.wrap (a2)) / 4)) (Int.tmod a5 62))))).bind fun t121 => ((flagstoneref40_Grow.f k (mn (shr .i64 (wrap64 ((IntKind.u64.wrap (a0)) / 2)) (Int.tmod a3 62)) 2305843009213693952) (shr .i64 (wrap64 ((IntKind.u64.wrap (a1)) / 2)) (Int.tmod a4 62)) (wrap64 (1 + (shr .i64 (wrap64 ((IntKind.u64.wrap (a2)) / 4)) (Int.tmod a5 62))))).bind fun t122 => (if t121 = t122 then ((wealth_Grow.f k 2305843009213693952 (shr .i64 (wrap64 ((IntKind.u64.wrap (a1)) / 2)) (Int.tmod a4 62)) (wrap64 (1 + (shr .i64 (wrap64 ((IntKind.u64.wrap (a2)) / 4)) (Int.tmod a5 62))))).bind fun t123 => ((flagstoneref40_Grow.f k 2305843009213693952 (shr .i64 (wrap64 ((IntKind.u64.wrap (a1)) / 2)) (Int.tmod a4 62)) (wrap64 (1 + (shr .i64 (wrap64 ((IntKind.u64.wrap (a2)) / 4)) (Int.tmod a5 62))))).bind fun t124 => (if t123 = t124 then ((wealth_Grow.f k (shr .i64 (wrap64 ((IntKind.u64.wrap (a0)) / 2)) (Int.tmod a3 62)) (wrap64 (4611686018427387904 + (wrap64 (Int.tdiv (shr .i64 (wrap64 ((IntKind.u64.wrap (a1)) / 2)) (Int.tmod a4 62)) 2)))) 4611686018427387904).bind fun t125 => ((flagstoneref40_Grow.f k (shr .i64 (wrap64 ((IntKind.u64.wrap (a0)) / 2)) (Int.tmod a3 62)) (wrap64 (4611686018427387904 + (wrap64 (Int.tdiv (shr .i64 (wrap64 ((IntKind.u64.wrap (a1)) / 2)) (Int.tmod a4 62)) 2)))) 4611686018427387904).bind fun t126 => (some (t125 == t126)))) else (some false)))) else (some false)))) else (some false)))) else (none)) else (none)) else (none)) else (some false))
theorem flagstonelaw40_WealthGrows.mono : ∀ a0 a1 a2 a3 a4 a5 k, LeO (flagstonelaw40_WealthGrows.f k a0 a1 a2 a3 a4 a5) (flagstonelaw40_WealthGrows.f (k + 1) a0 a1 a2 a3 a4 a5) := by
  intro a0 a1 a2 a3 a4 a5 k
  unfold flagstonelaw40_WealthGrows.f
  repeat' first
      | (with_reducible exact flagstonelaw40_awake.mono _)
      | (with_reducible exact flagstoneref40_Grow.mono _ _ _ _)
      | (with_reducible exact wealth_Grow.mono _ _ _ _)
      | (with_reducible exact LeO.refl _)
      | (with_reducible exact LeO.none _)
      | (with_reducible refine LeO.ite ?_ ?_)
      | (with_reducible refine LeO.bind ?_ (fun _ => ?_))
      | exact flagstonelaw40_awake.mono _
      | exact flagstoneref40_Grow.mono _ _ _ _
      | exact wealth_Grow.mono _ _ _ _
      | exact LeO.none _
      | refine LeO.ite ?_ ?_
      | refine LeO.bind ?_ (fun _ => ?_)
set_option maxHeartbeats 8000000 in
set_option maxRecDepth 100000 in
theorem flagstonelaw40_WealthGrows.calls (k : Nat) (a0 : Int) (a1 : Int) (a2 : Int) (a3 : Int) (a4 : Int) (a5 : Int) (r : Bool) (w : World) (h : flagstonelaw40_WealthGrows.f k a0 a1 a2 a3 a4 a5 = some r) :
    Calls Try.prog 3 #[.int .i64 a0, .int .i64 a1, .int .i64 a2, .int .u8 a3, .int .u8 a4, .int .u8 a5] w fun e w' => e = .returned (.bool r) ∧ Below w.heap.size w w' := by
  have HB := Aside0.mk (Below.refl w.heap.size w)
  have H : ((flagstonelaw40_awake.f k).bind fun t118 => (if t118 = true then (if 0 ≤ (Int.tmod a3 62) then (if 0 ≤ (Int.tmod a4 62) then (if 0 ≤ (Int.tmod a5 62) then ((wealth_Grow.f k a0 a1 a2).bind fun t119 => ((flagstoneref40_Grow.f k a0 a1 a2).bind fun t120 => (if t119 = t120 then ((wealth_Grow.f k (mn (shr .i64 (wrap64 ((IntKind.u64.wrap (a0)) / 2)) (Int.tmod a3 62)) 2305843009213693952) (shr .i64 (wrap64 ((IntKind.u64.wrap (a1)) / 2)) (Int.tmod a4 62)) (wrap64 (1 + (shr .i64 (wrap64 ((IntKind.u64.wrap (a2)) / 4)) (Int.tmod a5 62))))).bind fun t121 => ((flagstoneref40_Grow.f k (mn (shr .i64 (wrap64 ((IntKind.u64.wrap (a0)) / 2)) (Int.tmod a3 62)) 2305843009213693952) (shr .i64 (wrap64 ((IntKind.u64.wrap (a1)) / 2)) (Int.tmod a4 62)) (wrap64 (1 + (shr .i64 (wrap64 ((IntKind.u64.wrap (a2)) / 4)) (Int.tmod a5 62))))).bind fun t122 => (if t121 = t122 then ((wealth_Grow.f k 2305843009213693952 (shr .i64 (wrap64 ((IntKind.u64.wrap (a1)) / 2)) (Int.tmod a4 62)) (wrap64 (1 + (shr .i64 (wrap64 ((IntKind.u64.wrap (a2)) / 4)) (Int.tmod a5 62))))).bind fun t123 => ((flagstoneref40_Grow.f k 2305843009213693952 (shr .i64 (wrap64 ((IntKind.u64.wrap (a1)) / 2)) (Int.tmod a4 62)) (wrap64 (1 + (shr .i64 (wrap64 ((IntKind.u64.wrap (a2)) / 4)) (Int.tmod a5 62))))).bind fun t124 => (if t123 = t124 then ((wealth_Grow.f k (shr .i64 (wrap64 ((IntKind.u64.wrap (a0)) / 2)) (Int.tmod a3 62)) (wrap64 (4611686018427387904 + (wrap64 (Int.tdiv (shr .i64 (wrap64 ((IntKind.u64.wrap (a1)) / 2)) (Int.tmod a4 62)) 2)))) 4611686018427387904).bind fun t125 => ((flagstoneref40_Grow.f k (shr .i64 (wrap64 ((IntKind.u64.wrap (a0)) / 2)) (Int.tmod a3 62)) (wrap64 (4611686018427387904 + (wrap64 (Int.tdiv (shr .i64 (wrap64 ((IntKind.u64.wrap (a1)) / 2)) (Int.tmod a4 62)) 2)))) 4611686018427387904).bind fun t126 => (some (t125 == t126)))) else (some false)))) else (some false)))) else (some false)))) else (none)) else (none)) else (none)) else (some false))) = some r := h
  clear h
  replace H := Option.bind_eq_some_iff.mp H
  obtain ⟨t118, A70, H⟩ := H
  replace H : (if t118 = true then (if 0 ≤ (Int.tmod a3 62) then (if 0 ≤ (Int.tmod a4 62) then (if 0 ≤ (Int.tmod a5 62) then ((wealth_Grow.f k a0 a1 a2).bind fun t119 => ((flagstoneref40_Grow.f k a0 a1 a2).bind fun t120 => (if t119 = t120 then ((wealth_Grow.f k (mn (shr .i64 (wrap64 ((IntKind.u64.wrap (a0)) / 2)) (Int.tmod a3 62)) 2305843009213693952) (shr .i64 (wrap64 ((IntKind.u64.wrap (a1)) / 2)) (Int.tmod a4 62)) (wrap64 (1 + (shr .i64 (wrap64 ((IntKind.u64.wrap (a2)) / 4)) (Int.tmod a5 62))))).bind fun t121 => ((flagstoneref40_Grow.f k (mn (shr .i64 (wrap64 ((IntKind.u64.wrap (a0)) / 2)) (Int.tmod a3 62)) 2305843009213693952) (shr .i64 (wrap64 ((IntKind.u64.wrap (a1)) / 2)) (Int.tmod a4 62)) (wrap64 (1 + (shr .i64 (wrap64 ((IntKind.u64.wrap (a2)) / 4)) (Int.tmod a5 62))))).bind fun t122 => (if t121 = t122 then ((wealth_Grow.f k 2305843009213693952 (shr .i64 (wrap64 ((IntKind.u64.wrap (a1)) / 2)) (Int.tmod a4 62)) (wrap64 (1 + (shr .i64 (wrap64 ((IntKind.u64.wrap (a2)) / 4)) (Int.tmod a5 62))))).bind fun t123 => ((flagstoneref40_Grow.f k 2305843009213693952 (shr .i64 (wrap64 ((IntKind.u64.wrap (a1)) / 2)) (Int.tmod a4 62)) (wrap64 (1 + (shr .i64 (wrap64 ((IntKind.u64.wrap (a2)) / 4)) (Int.tmod a5 62))))).bind fun t124 => (if t123 = t124 then ((wealth_Grow.f k (shr .i64 (wrap64 ((IntKind.u64.wrap (a0)) / 2)) (Int.tmod a3 62)) (wrap64 (4611686018427387904 + (wrap64 (Int.tdiv (shr .i64 (wrap64 ((IntKind.u64.wrap (a1)) / 2)) (Int.tmod a4 62)) 2)))) 4611686018427387904).bind fun t125 => ((flagstoneref40_Grow.f k (shr .i64 (wrap64 ((IntKind.u64.wrap (a0)) / 2)) (Int.tmod a3 62)) (wrap64 (4611686018427387904 + (wrap64 (Int.tdiv (shr .i64 (wrap64 ((IntKind.u64.wrap (a1)) / 2)) (Int.tmod a4 62)) 2)))) 4611686018427387904).bind fun t126 => (some (t125 == t126)))) else (some false)))) else (some false)))) else (some false)))) else (none)) else (none)) else (none)) else (some false)) = some r := H
  have A7 := Aside0.mk A70
  clear A70
  by_cases c8 : t118 = true
  · subst c8
    have H1 : (if 0 ≤ (Int.tmod a3 62) then (if 0 ≤ (Int.tmod a4 62) then (if 0 ≤ (Int.tmod a5 62) then ((wealth_Grow.f k a0 a1 a2).bind fun t119 => ((flagstoneref40_Grow.f k a0 a1 a2).bind fun t120 => (if t119 = t120 then ((wealth_Grow.f k (mn (shr .i64 (wrap64 ((IntKind.u64.wrap (a0)) / 2)) (Int.tmod a3 62)) 2305843009213693952) (shr .i64 (wrap64 ((IntKind.u64.wrap (a1)) / 2)) (Int.tmod a4 62)) (wrap64 (1 + (shr .i64 (wrap64 ((IntKind.u64.wrap (a2)) / 4)) (Int.tmod a5 62))))).bind fun t121 => ((flagstoneref40_Grow.f k (mn (shr .i64 (wrap64 ((IntKind.u64.wrap (a0)) / 2)) (Int.tmod a3 62)) 2305843009213693952) (shr .i64 (wrap64 ((IntKind.u64.wrap (a1)) / 2)) (Int.tmod a4 62)) (wrap64 (1 + (shr .i64 (wrap64 ((IntKind.u64.wrap (a2)) / 4)) (Int.tmod a5 62))))).bind fun t122 => (if t121 = t122 then ((wealth_Grow.f k 2305843009213693952 (shr .i64 (wrap64 ((IntKind.u64.wrap (a1)) / 2)) (Int.tmod a4 62)) (wrap64 (1 + (shr .i64 (wrap64 ((IntKind.u64.wrap (a2)) / 4)) (Int.tmod a5 62))))).bind fun t123 => ((flagstoneref40_Grow.f k 2305843009213693952 (shr .i64 (wrap64 ((IntKind.u64.wrap (a1)) / 2)) (Int.tmod a4 62)) (wrap64 (1 + (shr .i64 (wrap64 ((IntKind.u64.wrap (a2)) / 4)) (Int.tmod a5 62))))).bind fun t124 => (if t123 = t124 then ((wealth_Grow.f k (shr .i64 (wrap64 ((IntKind.u64.wrap (a0)) / 2)) (Int.tmod a3 62)) (wrap64 (4611686018427387904 + (wrap64 (Int.tdiv (shr .i64 (wrap64 ((IntKind.u64.wrap (a1)) / 2)) (Int.tmod a4 62)) 2)))) 4611686018427387904).bind fun t125 => ((flagstoneref40_Grow.f k (shr .i64 (wrap64 ((IntKind.u64.wrap (a0)) / 2)) (Int.tmod a3 62)) (wrap64 (4611686018427387904 + (wrap64 (Int.tdiv (shr .i64 (wrap64 ((IntKind.u64.wrap (a1)) / 2)) (Int.tmod a4 62)) 2)))) 4611686018427387904).bind fun t126 => (some (t125 == t126)))) else (some false)))) else (some false)))) else (some false)))) else (none)) else (none)) else (none)) = some r := by rw [if_pos rfl] at H; exact H
    clear H
    have H := H1
    clear H1
    obtain ⟨ji9, hji9⟩ : ∃ j_ : Int, (Int.tmod a3 62) = j_ := ⟨_, rfl⟩
    replace H : (if 0 ≤ (ji9) then (if 0 ≤ (Int.tmod a4 62) then (if 0 ≤ (Int.tmod a5 62) then ((wealth_Grow.f k a0 a1 a2).bind fun t119 => ((flagstoneref40_Grow.f k a0 a1 a2).bind fun t120 => (if t119 = t120 then ((wealth_Grow.f k (mn (shr .i64 (wrap64 ((IntKind.u64.wrap (a0)) / 2)) (ji9)) 2305843009213693952) (shr .i64 (wrap64 ((IntKind.u64.wrap (a1)) / 2)) (Int.tmod a4 62)) (wrap64 (1 + (shr .i64 (wrap64 ((IntKind.u64.wrap (a2)) / 4)) (Int.tmod a5 62))))).bind fun t121 => ((flagstoneref40_Grow.f k (mn (shr .i64 (wrap64 ((IntKind.u64.wrap (a0)) / 2)) (ji9)) 2305843009213693952) (shr .i64 (wrap64 ((IntKind.u64.wrap (a1)) / 2)) (Int.tmod a4 62)) (wrap64 (1 + (shr .i64 (wrap64 ((IntKind.u64.wrap (a2)) / 4)) (Int.tmod a5 62))))).bind fun t122 => (if t121 = t122 then ((wealth_Grow.f k 2305843009213693952 (shr .i64 (wrap64 ((IntKind.u64.wrap (a1)) / 2)) (Int.tmod a4 62)) (wrap64 (1 + (shr .i64 (wrap64 ((IntKind.u64.wrap (a2)) / 4)) (Int.tmod a5 62))))).bind fun t123 => ((flagstoneref40_Grow.f k 2305843009213693952 (shr .i64 (wrap64 ((IntKind.u64.wrap (a1)) / 2)) (Int.tmod a4 62)) (wrap64 (1 + (shr .i64 (wrap64 ((IntKind.u64.wrap (a2)) / 4)) (Int.tmod a5 62))))).bind fun t124 => (if t123 = t124 then ((wealth_Grow.f k (shr .i64 (wrap64 ((IntKind.u64.wrap (a0)) / 2)) (ji9)) (wrap64 (4611686018427387904 + (wrap64 (Int.tdiv (shr .i64 (wrap64 ((IntKind.u64.wrap (a1)) / 2)) (Int.tmod a4 62)) 2)))) 4611686018427387904).bind fun t125 => ((flagstoneref40_Grow.f k (shr .i64 (wrap64 ((IntKind.u64.wrap (a0)) / 2)) (ji9)) (wrap64 (4611686018427387904 + (wrap64 (Int.tdiv (shr .i64 (wrap64 ((IntKind.u64.wrap (a1)) / 2)) (Int.tmod a4 62)) 2)))) 4611686018427387904).bind fun t126 => (some (t125 == t126)))) else (some false)))) else (some false)))) else (some false)))) else (none)) else (none)) else (none)) = some r := by first | (rw [hji9] at H; exact H) | (simp only [hji9] at H ⊢; exact H)
    (try rw [hji9] at A7)
    by_cases c10 : 0 ≤ (ji9)
    · rw [if_pos c10] at H
      have c10b0 := eq_true c10
      have c10b1 : decide (0 ≤ (ji9)) = true := decide_eq_true c10
      clear c10
      obtain ⟨ji11, hji11⟩ : ∃ j_ : Int, (shr .i64 (wrap64 ((IntKind.u64.wrap (a0)) / 2)) (ji9)) = j_ := ⟨_, rfl⟩
      replace H : (if 0 ≤ (Int.tmod a4 62) then (if 0 ≤ (Int.tmod a5 62) then ((wealth_Grow.f k a0 a1 a2).bind fun t119 => ((flagstoneref40_Grow.f k a0 a1 a2).bind fun t120 => (if t119 = t120 then ((wealth_Grow.f k (mn (ji11) 2305843009213693952) (shr .i64 (wrap64 ((IntKind.u64.wrap (a1)) / 2)) (Int.tmod a4 62)) (wrap64 (1 + (shr .i64 (wrap64 ((IntKind.u64.wrap (a2)) / 4)) (Int.tmod a5 62))))).bind fun t121 => ((flagstoneref40_Grow.f k (mn (ji11) 2305843009213693952) (shr .i64 (wrap64 ((IntKind.u64.wrap (a1)) / 2)) (Int.tmod a4 62)) (wrap64 (1 + (shr .i64 (wrap64 ((IntKind.u64.wrap (a2)) / 4)) (Int.tmod a5 62))))).bind fun t122 => (if t121 = t122 then ((wealth_Grow.f k 2305843009213693952 (shr .i64 (wrap64 ((IntKind.u64.wrap (a1)) / 2)) (Int.tmod a4 62)) (wrap64 (1 + (shr .i64 (wrap64 ((IntKind.u64.wrap (a2)) / 4)) (Int.tmod a5 62))))).bind fun t123 => ((flagstoneref40_Grow.f k 2305843009213693952 (shr .i64 (wrap64 ((IntKind.u64.wrap (a1)) / 2)) (Int.tmod a4 62)) (wrap64 (1 + (shr .i64 (wrap64 ((IntKind.u64.wrap (a2)) / 4)) (Int.tmod a5 62))))).bind fun t124 => (if t123 = t124 then ((wealth_Grow.f k (ji11) (wrap64 (4611686018427387904 + (wrap64 (Int.tdiv (shr .i64 (wrap64 ((IntKind.u64.wrap (a1)) / 2)) (Int.tmod a4 62)) 2)))) 4611686018427387904).bind fun t125 => ((flagstoneref40_Grow.f k (ji11) (wrap64 (4611686018427387904 + (wrap64 (Int.tdiv (shr .i64 (wrap64 ((IntKind.u64.wrap (a1)) / 2)) (Int.tmod a4 62)) 2)))) 4611686018427387904).bind fun t126 => (some (t125 == t126)))) else (some false)))) else (some false)))) else (some false)))) else (none)) else (none)) = some r := by first | (rw [hji11] at H; exact H) | (simp only [hji11] at H ⊢; exact H)
      (try rw [hji11] at A7)
      have hji11_ : ((wrap64 ((IntKind.u64.wrap (a0)) / 2)) / 2 ^ min (ji9).toNat 64) = ji11 := hji11
      have hji11z : (ji9) ≤ 64 → ((wrap64 ((IntKind.u64.wrap (a0)) / 2)) / 2 ^ (ji9).toNat) = ji11 := shr_small hji11
      obtain ⟨ji12, hji12⟩ : ∃ j_ : Int, (Int.tmod a4 62) = j_ := ⟨_, rfl⟩
      replace H : (if 0 ≤ (ji12) then (if 0 ≤ (Int.tmod a5 62) then ((wealth_Grow.f k a0 a1 a2).bind fun t119 => ((flagstoneref40_Grow.f k a0 a1 a2).bind fun t120 => (if t119 = t120 then ((wealth_Grow.f k (mn (ji11) 2305843009213693952) (shr .i64 (wrap64 ((IntKind.u64.wrap (a1)) / 2)) (ji12)) (wrap64 (1 + (shr .i64 (wrap64 ((IntKind.u64.wrap (a2)) / 4)) (Int.tmod a5 62))))).bind fun t121 => ((flagstoneref40_Grow.f k (mn (ji11) 2305843009213693952) (shr .i64 (wrap64 ((IntKind.u64.wrap (a1)) / 2)) (ji12)) (wrap64 (1 + (shr .i64 (wrap64 ((IntKind.u64.wrap (a2)) / 4)) (Int.tmod a5 62))))).bind fun t122 => (if t121 = t122 then ((wealth_Grow.f k 2305843009213693952 (shr .i64 (wrap64 ((IntKind.u64.wrap (a1)) / 2)) (ji12)) (wrap64 (1 + (shr .i64 (wrap64 ((IntKind.u64.wrap (a2)) / 4)) (Int.tmod a5 62))))).bind fun t123 => ((flagstoneref40_Grow.f k 2305843009213693952 (shr .i64 (wrap64 ((IntKind.u64.wrap (a1)) / 2)) (ji12)) (wrap64 (1 + (shr .i64 (wrap64 ((IntKind.u64.wrap (a2)) / 4)) (Int.tmod a5 62))))).bind fun t124 => (if t123 = t124 then ((wealth_Grow.f k (ji11) (wrap64 (4611686018427387904 + (wrap64 (Int.tdiv (shr .i64 (wrap64 ((IntKind.u64.wrap (a1)) / 2)) (ji12)) 2)))) 4611686018427387904).bind fun t125 => ((flagstoneref40_Grow.f k (ji11) (wrap64 (4611686018427387904 + (wrap64 (Int.tdiv (shr .i64 (wrap64 ((IntKind.u64.wrap (a1)) / 2)) (ji12)) 2)))) 4611686018427387904).bind fun t126 => (some (t125 == t126)))) else (some false)))) else (some false)))) else (some false)))) else (none)) else (none)) = some r := by first | (rw [hji12] at H; exact H) | (simp only [hji12] at H ⊢; exact H)
      (try rw [hji12] at A7)
      by_cases c13 : 0 ≤ (ji12)
      · rw [if_pos c13] at H
        have c13b0 := eq_true c13
        have c13b1 : decide (0 ≤ (ji12)) = true := decide_eq_true c13
        clear c13
        obtain ⟨ji14, hji14⟩ : ∃ j_ : Int, (shr .i64 (wrap64 ((IntKind.u64.wrap (a1)) / 2)) (ji12)) = j_ := ⟨_, rfl⟩
        replace H : (if 0 ≤ (Int.tmod a5 62) then ((wealth_Grow.f k a0 a1 a2).bind fun t119 => ((flagstoneref40_Grow.f k a0 a1 a2).bind fun t120 => (if t119 = t120 then ((wealth_Grow.f k (mn (ji11) 2305843009213693952) (ji14) (wrap64 (1 + (shr .i64 (wrap64 ((IntKind.u64.wrap (a2)) / 4)) (Int.tmod a5 62))))).bind fun t121 => ((flagstoneref40_Grow.f k (mn (ji11) 2305843009213693952) (ji14) (wrap64 (1 + (shr .i64 (wrap64 ((IntKind.u64.wrap (a2)) / 4)) (Int.tmod a5 62))))).bind fun t122 => (if t121 = t122 then ((wealth_Grow.f k 2305843009213693952 (ji14) (wrap64 (1 + (shr .i64 (wrap64 ((IntKind.u64.wrap (a2)) / 4)) (Int.tmod a5 62))))).bind fun t123 => ((flagstoneref40_Grow.f k 2305843009213693952 (ji14) (wrap64 (1 + (shr .i64 (wrap64 ((IntKind.u64.wrap (a2)) / 4)) (Int.tmod a5 62))))).bind fun t124 => (if t123 = t124 then ((wealth_Grow.f k (ji11) (wrap64 (4611686018427387904 + (wrap64 (Int.tdiv (ji14) 2)))) 4611686018427387904).bind fun t125 => ((flagstoneref40_Grow.f k (ji11) (wrap64 (4611686018427387904 + (wrap64 (Int.tdiv (ji14) 2)))) 4611686018427387904).bind fun t126 => (some (t125 == t126)))) else (some false)))) else (some false)))) else (some false)))) else (none)) = some r := by first | (rw [hji14] at H; exact H) | (simp only [hji14] at H ⊢; exact H)
        (try rw [hji14] at A7)
        have hji14_ : ((wrap64 ((IntKind.u64.wrap (a1)) / 2)) / 2 ^ min (ji12).toNat 64) = ji14 := hji14
        have hji14z : (ji12) ≤ 64 → ((wrap64 ((IntKind.u64.wrap (a1)) / 2)) / 2 ^ (ji12).toNat) = ji14 := shr_small hji14
        obtain ⟨ji15, hji15⟩ : ∃ j_ : Int, (Int.tmod a5 62) = j_ := ⟨_, rfl⟩
        replace H : (if 0 ≤ (ji15) then ((wealth_Grow.f k a0 a1 a2).bind fun t119 => ((flagstoneref40_Grow.f k a0 a1 a2).bind fun t120 => (if t119 = t120 then ((wealth_Grow.f k (mn (ji11) 2305843009213693952) (ji14) (wrap64 (1 + (shr .i64 (wrap64 ((IntKind.u64.wrap (a2)) / 4)) (ji15))))).bind fun t121 => ((flagstoneref40_Grow.f k (mn (ji11) 2305843009213693952) (ji14) (wrap64 (1 + (shr .i64 (wrap64 ((IntKind.u64.wrap (a2)) / 4)) (ji15))))).bind fun t122 => (if t121 = t122 then ((wealth_Grow.f k 2305843009213693952 (ji14) (wrap64 (1 + (shr .i64 (wrap64 ((IntKind.u64.wrap (a2)) / 4)) (ji15))))).bind fun t123 => ((flagstoneref40_Grow.f k 2305843009213693952 (ji14) (wrap64 (1 + (shr .i64 (wrap64 ((IntKind.u64.wrap (a2)) / 4)) (ji15))))).bind fun t124 => (if t123 = t124 then ((wealth_Grow.f k (ji11) (wrap64 (4611686018427387904 + (wrap64 (Int.tdiv (ji14) 2)))) 4611686018427387904).bind fun t125 => ((flagstoneref40_Grow.f k (ji11) (wrap64 (4611686018427387904 + (wrap64 (Int.tdiv (ji14) 2)))) 4611686018427387904).bind fun t126 => (some (t125 == t126)))) else (some false)))) else (some false)))) else (some false)))) else (none)) = some r := by first | (rw [hji15] at H; exact H) | (simp only [hji15] at H ⊢; exact H)
        (try rw [hji15] at A7)
        by_cases c16 : 0 ≤ (ji15)
        · rw [if_pos c16] at H
          have c16b0 := eq_true c16
          have c16b1 : decide (0 ≤ (ji15)) = true := decide_eq_true c16
          clear c16
          obtain ⟨ji17, hji17⟩ : ∃ j_ : Int, (shr .i64 (wrap64 ((IntKind.u64.wrap (a2)) / 4)) (ji15)) = j_ := ⟨_, rfl⟩
          replace H : ((wealth_Grow.f k a0 a1 a2).bind fun t119 => ((flagstoneref40_Grow.f k a0 a1 a2).bind fun t120 => (if t119 = t120 then ((wealth_Grow.f k (mn (ji11) 2305843009213693952) (ji14) (wrap64 (1 + (ji17)))).bind fun t121 => ((flagstoneref40_Grow.f k (mn (ji11) 2305843009213693952) (ji14) (wrap64 (1 + (ji17)))).bind fun t122 => (if t121 = t122 then ((wealth_Grow.f k 2305843009213693952 (ji14) (wrap64 (1 + (ji17)))).bind fun t123 => ((flagstoneref40_Grow.f k 2305843009213693952 (ji14) (wrap64 (1 + (ji17)))).bind fun t124 => (if t123 = t124 then ((wealth_Grow.f k (ji11) (wrap64 (4611686018427387904 + (wrap64 (Int.tdiv (ji14) 2)))) 4611686018427387904).bind fun t125 => ((flagstoneref40_Grow.f k (ji11) (wrap64 (4611686018427387904 + (wrap64 (Int.tdiv (ji14) 2)))) 4611686018427387904).bind fun t126 => (some (t125 == t126)))) else (some false)))) else (some false)))) else (some false)))) = some r := by first | (rw [hji17] at H; exact H) | (simp only [hji17] at H ⊢; exact H)
          (try rw [hji17] at A7)
          have hji17_ : ((wrap64 ((IntKind.u64.wrap (a2)) / 4)) / 2 ^ min (ji15).toNat 64) = ji17 := hji17
          have hji17z : (ji15) ≤ 64 → ((wrap64 ((IntKind.u64.wrap (a2)) / 4)) / 2 ^ (ji15).toNat) = ji17 := shr_small hji17
          replace H := Option.bind_eq_some_iff.mp H
          obtain ⟨t119, A180, H⟩ := H
          replace H : ((flagstoneref40_Grow.f k a0 a1 a2).bind fun t120 => (if t119 = t120 then ((wealth_Grow.f k (mn (ji11) 2305843009213693952) (ji14) (wrap64 (1 + (ji17)))).bind fun t121 => ((flagstoneref40_Grow.f k (mn (ji11) 2305843009213693952) (ji14) (wrap64 (1 + (ji17)))).bind fun t122 => (if t121 = t122 then ((wealth_Grow.f k 2305843009213693952 (ji14) (wrap64 (1 + (ji17)))).bind fun t123 => ((flagstoneref40_Grow.f k 2305843009213693952 (ji14) (wrap64 (1 + (ji17)))).bind fun t124 => (if t123 = t124 then ((wealth_Grow.f k (ji11) (wrap64 (4611686018427387904 + (wrap64 (Int.tdiv (ji14) 2)))) 4611686018427387904).bind fun t125 => ((flagstoneref40_Grow.f k (ji11) (wrap64 (4611686018427387904 + (wrap64 (Int.tdiv (ji14) 2)))) 4611686018427387904).bind fun t126 => (some (t125 == t126)))) else (some false)))) else (some false)))) else (some false))) = some r := H
          have A18 := Aside0.mk A180
          clear A180
          replace H := Option.bind_eq_some_iff.mp H
          obtain ⟨t120, A190, H⟩ := H
          replace H : (if t119 = t120 then ((wealth_Grow.f k (mn (ji11) 2305843009213693952) (ji14) (wrap64 (1 + (ji17)))).bind fun t121 => ((flagstoneref40_Grow.f k (mn (ji11) 2305843009213693952) (ji14) (wrap64 (1 + (ji17)))).bind fun t122 => (if t121 = t122 then ((wealth_Grow.f k 2305843009213693952 (ji14) (wrap64 (1 + (ji17)))).bind fun t123 => ((flagstoneref40_Grow.f k 2305843009213693952 (ji14) (wrap64 (1 + (ji17)))).bind fun t124 => (if t123 = t124 then ((wealth_Grow.f k (ji11) (wrap64 (4611686018427387904 + (wrap64 (Int.tdiv (ji14) 2)))) 4611686018427387904).bind fun t125 => ((flagstoneref40_Grow.f k (ji11) (wrap64 (4611686018427387904 + (wrap64 (Int.tdiv (ji14) 2)))) 4611686018427387904).bind fun t126 => (some (t125 == t126)))) else (some false)))) else (some false)))) else (some false)) = some r := H
          have A19 := Aside0.mk A190
          clear A190
          by_cases c20 : t119 = t120
          · rw [if_pos c20] at H
            have c20b0 : (t119 == t120) = true := beq_iff_eq.mpr c20
            have c20b1 : (t119 != t120) = false := bne_eq_false_iff_eq.mpr c20
            clear c20
            obtain ⟨ji21, hji21⟩ : ∃ j_ : Int, (mn (ji11) 2305843009213693952) = j_ := ⟨_, rfl⟩
            replace H : ((wealth_Grow.f k (ji21) (ji14) (wrap64 (1 + (ji17)))).bind fun t121 => ((flagstoneref40_Grow.f k (ji21) (ji14) (wrap64 (1 + (ji17)))).bind fun t122 => (if t121 = t122 then ((wealth_Grow.f k 2305843009213693952 (ji14) (wrap64 (1 + (ji17)))).bind fun t123 => ((flagstoneref40_Grow.f k 2305843009213693952 (ji14) (wrap64 (1 + (ji17)))).bind fun t124 => (if t123 = t124 then ((wealth_Grow.f k (ji11) (wrap64 (4611686018427387904 + (wrap64 (Int.tdiv (ji14) 2)))) 4611686018427387904).bind fun t125 => ((flagstoneref40_Grow.f k (ji11) (wrap64 (4611686018427387904 + (wrap64 (Int.tdiv (ji14) 2)))) 4611686018427387904).bind fun t126 => (some (t125 == t126)))) else (some false)))) else (some false)))) = some r := by first | (rw [hji21] at H; exact H) | (simp only [hji21] at H ⊢; exact H)
            (try rw [hji21] at A7)
            (try rw [hji21] at A18)
            (try rw [hji21] at A19)
            have hji21_ : (if 2305843009213693952 < (ji11) then 2305843009213693952 else (ji11)) = ji21 := hji21
            replace H := Option.bind_eq_some_iff.mp H
            obtain ⟨t121, A220, H⟩ := H
            replace H : ((flagstoneref40_Grow.f k (ji21) (ji14) (wrap64 (1 + (ji17)))).bind fun t122 => (if t121 = t122 then ((wealth_Grow.f k 2305843009213693952 (ji14) (wrap64 (1 + (ji17)))).bind fun t123 => ((flagstoneref40_Grow.f k 2305843009213693952 (ji14) (wrap64 (1 + (ji17)))).bind fun t124 => (if t123 = t124 then ((wealth_Grow.f k (ji11) (wrap64 (4611686018427387904 + (wrap64 (Int.tdiv (ji14) 2)))) 4611686018427387904).bind fun t125 => ((flagstoneref40_Grow.f k (ji11) (wrap64 (4611686018427387904 + (wrap64 (Int.tdiv (ji14) 2)))) 4611686018427387904).bind fun t126 => (some (t125 == t126)))) else (some false)))) else (some false))) = some r := H
            have A22 := Aside0.mk A220
            clear A220
            replace H := Option.bind_eq_some_iff.mp H
            obtain ⟨t122, A230, H⟩ := H
            replace H : (if t121 = t122 then ((wealth_Grow.f k 2305843009213693952 (ji14) (wrap64 (1 + (ji17)))).bind fun t123 => ((flagstoneref40_Grow.f k 2305843009213693952 (ji14) (wrap64 (1 + (ji17)))).bind fun t124 => (if t123 = t124 then ((wealth_Grow.f k (ji11) (wrap64 (4611686018427387904 + (wrap64 (Int.tdiv (ji14) 2)))) 4611686018427387904).bind fun t125 => ((flagstoneref40_Grow.f k (ji11) (wrap64 (4611686018427387904 + (wrap64 (Int.tdiv (ji14) 2)))) 4611686018427387904).bind fun t126 => (some (t125 == t126)))) else (some false)))) else (some false)) = some r := H
            have A23 := Aside0.mk A230
            clear A230
            by_cases c24 : t121 = t122
            · rw [if_pos c24] at H
              have c24b0 : (t121 == t122) = true := beq_iff_eq.mpr c24
              have c24b1 : (t121 != t122) = false := bne_eq_false_iff_eq.mpr c24
              clear c24
              replace H := Option.bind_eq_some_iff.mp H
              obtain ⟨t123, A250, H⟩ := H
              replace H : ((flagstoneref40_Grow.f k 2305843009213693952 (ji14) (wrap64 (1 + (ji17)))).bind fun t124 => (if t123 = t124 then ((wealth_Grow.f k (ji11) (wrap64 (4611686018427387904 + (wrap64 (Int.tdiv (ji14) 2)))) 4611686018427387904).bind fun t125 => ((flagstoneref40_Grow.f k (ji11) (wrap64 (4611686018427387904 + (wrap64 (Int.tdiv (ji14) 2)))) 4611686018427387904).bind fun t126 => (some (t125 == t126)))) else (some false))) = some r := H
              have A25 := Aside0.mk A250
              clear A250
              replace H := Option.bind_eq_some_iff.mp H
              obtain ⟨t124, A260, H⟩ := H
              replace H : (if t123 = t124 then ((wealth_Grow.f k (ji11) (wrap64 (4611686018427387904 + (wrap64 (Int.tdiv (ji14) 2)))) 4611686018427387904).bind fun t125 => ((flagstoneref40_Grow.f k (ji11) (wrap64 (4611686018427387904 + (wrap64 (Int.tdiv (ji14) 2)))) 4611686018427387904).bind fun t126 => (some (t125 == t126)))) else (some false)) = some r := H
              have A26 := Aside0.mk A260
              clear A260
              by_cases c27 : t123 = t124
              · rw [if_pos c27] at H
                have c27b0 : (t123 == t124) = true := beq_iff_eq.mpr c27
                have c27b1 : (t123 != t124) = false := bne_eq_false_iff_eq.mpr c27
                clear c27
                replace H := Option.bind_eq_some_iff.mp H
                obtain ⟨t125, A280, H⟩ := H
                replace H : ((flagstoneref40_Grow.f k (ji11) (wrap64 (4611686018427387904 + (wrap64 (Int.tdiv (ji14) 2)))) 4611686018427387904).bind fun t126 => (some (t125 == t126))) = some r := H
                have A28 := Aside0.mk A280
                clear A280
                replace H := Option.bind_eq_some_iff.mp H
                obtain ⟨t126, A290, H⟩ := H
                replace H : (some (t125 == t126)) = some r := H
                have A29 := Aside0.mk A290
                clear A290
                obtain rfl := Option.some.inj H
                go_enter Try.func3, Try.ntmps3
                go_wp2_with (first | ((with_reducible refine gate_callee (f := 10) rfl ?_); refine goesL_ (some 16) rfl rfl Try.func10 (by kernel_rfl) rfl #[] rfl (by (try simp only [List.map_toArray, List.map_cons, List.map_nil]); first | done | rfl | (simp only [List.length_drop, List.length_take]; rfl)) ?_; (with_reducible refine (flagstonelaw40_awake.calls k  true _ A7.out).mono ?_); rintro e w30 ⟨rfl, hb⟩; refine ⟨_, rfl, ?_⟩; have n0_ := Aside0.mk (below_step (by repeat (first | (with_reducible first | exact HB.out | apply below_alloc | apply pw_below_drewN | apply below_drew1) | exact HB.out)) hb); clear HB; have HB := n0_; clear n0_; (try clear hb); (try clear hb2); (try clear hk); (try clear hi)) | ((with_reducible refine gate_callee (f := 11) rfl ?_); refine goesL_ (some 43) rfl rfl Try.func11 (by kernel_rfl) rfl #[.int .i64 a0, .int .i64 a1, .int .i64 a2] rfl (by (try simp only [List.map_toArray, List.map_cons, List.map_nil]); first | done | rfl | (simp only [List.length_drop, List.length_take]; rfl)) ?_; (with_reducible refine (wealth_Grow.calls k a0 a1 a2 t119 _ A18.out).mono ?_); rintro e w31 ⟨rfl, hb⟩; refine ⟨_, rfl, ?_⟩; have n0_ := Aside0.mk (below_step (by repeat (first | (with_reducible first | exact HB.out | apply below_alloc | apply pw_below_drewN | apply below_drew1) | exact HB.out)) hb); clear HB; have HB := n0_; clear n0_; (try clear hb); (try clear hb2); (try clear hk); (try clear hi)) | ((with_reducible refine gate_callee (f := 12) rfl ?_); refine goesL_ (some 47) rfl rfl Try.func12 (by kernel_rfl) rfl #[.int .i64 a0, .int .i64 a1, .int .i64 a2] rfl (by (try simp only [List.map_toArray, List.map_cons, List.map_nil]); first | done | rfl | (simp only [List.length_drop, List.length_take]; rfl)) ?_; (with_reducible refine (flagstoneref40_Grow.calls k a0 a1 a2 t120 _ A19.out).mono ?_); rintro e w32 ⟨rfl, hb⟩; refine ⟨_, rfl, ?_⟩; have n0_ := Aside0.mk (below_step (by repeat (first | (with_reducible first | exact HB.out | apply below_alloc | apply pw_below_drewN | apply below_drew1) | exact HB.out)) hb); clear HB; have HB := n0_; clear n0_; (try clear hb); (try clear hb2); (try clear hk); (try clear hi)) | (go_at_call 11; (with_reducible refine (wealth_Grow.calls k ji21 ji14 (wrap64 (1 + (ji17))) t121 _ A22.out).mono ?_); rintro e w33 ⟨rfl, hb⟩; have n0_ := Aside0.mk (below_step (by repeat (first | (with_reducible first | exact HB.out | apply below_alloc | apply pw_below_drewN | apply below_drew1) | exact HB.out)) hb); clear HB; have HB := n0_; clear n0_; (try clear hb); (try clear hb2); (try clear hk); (try clear hi)) | (go_at_call 12; (with_reducible refine (flagstoneref40_Grow.calls k ji21 ji14 (wrap64 (1 + (ji17))) t122 _ A23.out).mono ?_); rintro e w34 ⟨rfl, hb⟩; have n0_ := Aside0.mk (below_step (by repeat (first | (with_reducible first | exact HB.out | apply below_alloc | apply pw_below_drewN | apply below_drew1) | exact HB.out)) hb); clear HB; have HB := n0_; clear n0_; (try clear hb); (try clear hb2); (try clear hk); (try clear hi)) | (go_at_call 11; (with_reducible refine (wealth_Grow.calls k 2305843009213693952 ji14 (wrap64 (1 + (ji17))) t123 _ A25.out).mono ?_); rintro e w35 ⟨rfl, hb⟩; have n0_ := Aside0.mk (below_step (by repeat (first | (with_reducible first | exact HB.out | apply below_alloc | apply pw_below_drewN | apply below_drew1) | exact HB.out)) hb); clear HB; have HB := n0_; clear n0_; (try clear hb); (try clear hb2); (try clear hk); (try clear hi)) | (go_at_call 12; (with_reducible refine (flagstoneref40_Grow.calls k 2305843009213693952 ji14 (wrap64 (1 + (ji17))) t124 _ A26.out).mono ?_); rintro e w36 ⟨rfl, hb⟩; have n0_ := Aside0.mk (below_step (by repeat (first | (with_reducible first | exact HB.out | apply below_alloc | apply pw_below_drewN | apply below_drew1) | exact HB.out)) hb); clear HB; have HB := n0_; clear n0_; (try clear hb); (try clear hb2); (try clear hk); (try clear hi)) | (go_at_call 11; (with_reducible refine (wealth_Grow.calls k ji11 (wrap64 (4611686018427387904 + (wrap64 (Int.tdiv (ji14) 2)))) 4611686018427387904 t125 _ A28.out).mono ?_); rintro e w37 ⟨rfl, hb⟩; have n0_ := Aside0.mk (below_step (by repeat (first | (with_reducible first | exact HB.out | apply below_alloc | apply pw_below_drewN | apply below_drew1) | exact HB.out)) hb); clear HB; have HB := n0_; clear n0_; (try clear hb); (try clear hb2); (try clear hk); (try clear hi)) | (go_at_call 12; (with_reducible refine (flagstoneref40_Grow.calls k ji11 (wrap64 (4611686018427387904 + (wrap64 (Int.tdiv (ji14) 2)))) 4611686018427387904 t126 _ A29.out).mono ?_); rintro e w38 ⟨rfl, hb⟩; have n0_ := Aside0.mk (below_step (by repeat (first | (with_reducible first | exact HB.out | apply below_alloc | apply pw_below_drewN | apply below_drew1) | exact HB.out)) hb); clear HB; have HB := n0_; clear n0_; (try clear hb); (try clear hb2); (try clear hk); (try clear hi)))
                go_ret
                exact ⟨by first | rfl | (simp [errW_none, errW_some] <;> rfl) | (simp only [← hji9, ← hji11, ← hji12, ← hji14, ← hji15, ← hji17, ← hji21]; first | rfl | (simp [errW_none, errW_some] <;> rfl)) | (simp [*, errW_none, errW_some] <;> rfl), by repeat (first | (with_reducible first | exact HB.out | apply below_alloc | apply pw_below_drewN | apply below_drew1) | exact HB.out)⟩
              · rw [if_neg c27] at H
                have c27b0 : (t123 == t124) = false := beq_eq_false_iff_ne.mpr c27
                have c27b1 : (t123 != t124) = true := bne_iff_ne.mpr c27
                obtain rfl := Option.some.inj H
                go_enter Try.func3, Try.ntmps3
                go_wp2_with (first | ((with_reducible refine gate_callee (f := 10) rfl ?_); refine goesL_ (some 16) rfl rfl Try.func10 (by kernel_rfl) rfl #[] rfl (by (try simp only [List.map_toArray, List.map_cons, List.map_nil]); first | done | rfl | (simp only [List.length_drop, List.length_take]; rfl)) ?_; (with_reducible refine (flagstonelaw40_awake.calls k  true _ A7.out).mono ?_); rintro e w39 ⟨rfl, hb⟩; refine ⟨_, rfl, ?_⟩; have n0_ := Aside0.mk (below_step (by repeat (first | (with_reducible first | exact HB.out | apply below_alloc | apply pw_below_drewN | apply below_drew1) | exact HB.out)) hb); clear HB; have HB := n0_; clear n0_; (try clear hb); (try clear hb2); (try clear hk); (try clear hi)) | ((with_reducible refine gate_callee (f := 11) rfl ?_); refine goesL_ (some 43) rfl rfl Try.func11 (by kernel_rfl) rfl #[.int .i64 a0, .int .i64 a1, .int .i64 a2] rfl (by (try simp only [List.map_toArray, List.map_cons, List.map_nil]); first | done | rfl | (simp only [List.length_drop, List.length_take]; rfl)) ?_; (with_reducible refine (wealth_Grow.calls k a0 a1 a2 t119 _ A18.out).mono ?_); rintro e w40 ⟨rfl, hb⟩; refine ⟨_, rfl, ?_⟩; have n0_ := Aside0.mk (below_step (by repeat (first | (with_reducible first | exact HB.out | apply below_alloc | apply pw_below_drewN | apply below_drew1) | exact HB.out)) hb); clear HB; have HB := n0_; clear n0_; (try clear hb); (try clear hb2); (try clear hk); (try clear hi)) | ((with_reducible refine gate_callee (f := 12) rfl ?_); refine goesL_ (some 47) rfl rfl Try.func12 (by kernel_rfl) rfl #[.int .i64 a0, .int .i64 a1, .int .i64 a2] rfl (by (try simp only [List.map_toArray, List.map_cons, List.map_nil]); first | done | rfl | (simp only [List.length_drop, List.length_take]; rfl)) ?_; (with_reducible refine (flagstoneref40_Grow.calls k a0 a1 a2 t120 _ A19.out).mono ?_); rintro e w41 ⟨rfl, hb⟩; refine ⟨_, rfl, ?_⟩; have n0_ := Aside0.mk (below_step (by repeat (first | (with_reducible first | exact HB.out | apply below_alloc | apply pw_below_drewN | apply below_drew1) | exact HB.out)) hb); clear HB; have HB := n0_; clear n0_; (try clear hb); (try clear hb2); (try clear hk); (try clear hi)) | (go_at_call 11; (with_reducible refine (wealth_Grow.calls k ji21 ji14 (wrap64 (1 + (ji17))) t121 _ A22.out).mono ?_); rintro e w42 ⟨rfl, hb⟩; have n0_ := Aside0.mk (below_step (by repeat (first | (with_reducible first | exact HB.out | apply below_alloc | apply pw_below_drewN | apply below_drew1) | exact HB.out)) hb); clear HB; have HB := n0_; clear n0_; (try clear hb); (try clear hb2); (try clear hk); (try clear hi)) | (go_at_call 12; (with_reducible refine (flagstoneref40_Grow.calls k ji21 ji14 (wrap64 (1 + (ji17))) t122 _ A23.out).mono ?_); rintro e w43 ⟨rfl, hb⟩; have n0_ := Aside0.mk (below_step (by repeat (first | (with_reducible first | exact HB.out | apply below_alloc | apply pw_below_drewN | apply below_drew1) | exact HB.out)) hb); clear HB; have HB := n0_; clear n0_; (try clear hb); (try clear hb2); (try clear hk); (try clear hi)) | (go_at_call 11; (with_reducible refine (wealth_Grow.calls k 2305843009213693952 ji14 (wrap64 (1 + (ji17))) t123 _ A25.out).mono ?_); rintro e w44 ⟨rfl, hb⟩; have n0_ := Aside0.mk (below_step (by repeat (first | (with_reducible first | exact HB.out | apply below_alloc | apply pw_below_drewN | apply below_drew1) | exact HB.out)) hb); clear HB; have HB := n0_; clear n0_; (try clear hb); (try clear hb2); (try clear hk); (try clear hi)) | (go_at_call 12; (with_reducible refine (flagstoneref40_Grow.calls k 2305843009213693952 ji14 (wrap64 (1 + (ji17))) t124 _ A26.out).mono ?_); rintro e w45 ⟨rfl, hb⟩; have n0_ := Aside0.mk (below_step (by repeat (first | (with_reducible first | exact HB.out | apply below_alloc | apply pw_below_drewN | apply below_drew1) | exact HB.out)) hb); clear HB; have HB := n0_; clear n0_; (try clear hb); (try clear hb2); (try clear hk); (try clear hi)))
                go_ret
                exact ⟨by first | rfl | (simp [errW_none, errW_some] <;> rfl) | (simp only [← hji9, ← hji11, ← hji12, ← hji14, ← hji15, ← hji17, ← hji21]; first | rfl | (simp [errW_none, errW_some] <;> rfl)) | (simp [*, errW_none, errW_some] <;> rfl), by repeat (first | (with_reducible first | exact HB.out | apply below_alloc | apply pw_below_drewN | apply below_drew1) | exact HB.out)⟩
            · rw [if_neg c24] at H
              have c24b0 : (t121 == t122) = false := beq_eq_false_iff_ne.mpr c24
              have c24b1 : (t121 != t122) = true := bne_iff_ne.mpr c24
              obtain rfl := Option.some.inj H
              go_enter Try.func3, Try.ntmps3
              go_wp2_with (first | ((with_reducible refine gate_callee (f := 10) rfl ?_); refine goesL_ (some 16) rfl rfl Try.func10 (by kernel_rfl) rfl #[] rfl (by (try simp only [List.map_toArray, List.map_cons, List.map_nil]); first | done | rfl | (simp only [List.length_drop, List.length_take]; rfl)) ?_; (with_reducible refine (flagstonelaw40_awake.calls k  true _ A7.out).mono ?_); rintro e w46 ⟨rfl, hb⟩; refine ⟨_, rfl, ?_⟩; have n0_ := Aside0.mk (below_step (by repeat (first | (with_reducible first | exact HB.out | apply below_alloc | apply pw_below_drewN | apply below_drew1) | exact HB.out)) hb); clear HB; have HB := n0_; clear n0_; (try clear hb); (try clear hb2); (try clear hk); (try clear hi)) | ((with_reducible refine gate_callee (f := 11) rfl ?_); refine goesL_ (some 43) rfl rfl Try.func11 (by kernel_rfl) rfl #[.int .i64 a0, .int .i64 a1, .int .i64 a2] rfl (by (try simp only [List.map_toArray, List.map_cons, List.map_nil]); first | done | rfl | (simp only [List.length_drop, List.length_take]; rfl)) ?_; (with_reducible refine (wealth_Grow.calls k a0 a1 a2 t119 _ A18.out).mono ?_); rintro e w47 ⟨rfl, hb⟩; refine ⟨_, rfl, ?_⟩; have n0_ := Aside0.mk (below_step (by repeat (first | (with_reducible first | exact HB.out | apply below_alloc | apply pw_below_drewN | apply below_drew1) | exact HB.out)) hb); clear HB; have HB := n0_; clear n0_; (try clear hb); (try clear hb2); (try clear hk); (try clear hi)) | ((with_reducible refine gate_callee (f := 12) rfl ?_); refine goesL_ (some 47) rfl rfl Try.func12 (by kernel_rfl) rfl #[.int .i64 a0, .int .i64 a1, .int .i64 a2] rfl (by (try simp only [List.map_toArray, List.map_cons, List.map_nil]); first | done | rfl | (simp only [List.length_drop, List.length_take]; rfl)) ?_; (with_reducible refine (flagstoneref40_Grow.calls k a0 a1 a2 t120 _ A19.out).mono ?_); rintro e w48 ⟨rfl, hb⟩; refine ⟨_, rfl, ?_⟩; have n0_ := Aside0.mk (below_step (by repeat (first | (with_reducible first | exact HB.out | apply below_alloc | apply pw_below_drewN | apply below_drew1) | exact HB.out)) hb); clear HB; have HB := n0_; clear n0_; (try clear hb); (try clear hb2); (try clear hk); (try clear hi)) | (go_at_call 11; (with_reducible refine (wealth_Grow.calls k ji21 ji14 (wrap64 (1 + (ji17))) t121 _ A22.out).mono ?_); rintro e w49 ⟨rfl, hb⟩; have n0_ := Aside0.mk (below_step (by repeat (first | (with_reducible first | exact HB.out | apply below_alloc | apply pw_below_drewN | apply below_drew1) | exact HB.out)) hb); clear HB; have HB := n0_; clear n0_; (try clear hb); (try clear hb2); (try clear hk); (try clear hi)) | (go_at_call 12; (with_reducible refine (flagstoneref40_Grow.calls k ji21 ji14 (wrap64 (1 + (ji17))) t122 _ A23.out).mono ?_); rintro e w50 ⟨rfl, hb⟩; have n0_ := Aside0.mk (below_step (by repeat (first | (with_reducible first | exact HB.out | apply below_alloc | apply pw_below_drewN | apply below_drew1) | exact HB.out)) hb); clear HB; have HB := n0_; clear n0_; (try clear hb); (try clear hb2); (try clear hk); (try clear hi)))
              go_ret
              exact ⟨by first | rfl | (simp [errW_none, errW_some] <;> rfl) | (simp only [← hji9, ← hji11, ← hji12, ← hji14, ← hji15, ← hji17, ← hji21]; first | rfl | (simp [errW_none, errW_some] <;> rfl)) | (simp [*, errW_none, errW_some] <;> rfl), by repeat (first | (with_reducible first | exact HB.out | apply below_alloc | apply pw_below_drewN | apply below_drew1) | exact HB.out)⟩
          · rw [if_neg c20] at H
            have c20b0 : (t119 == t120) = false := beq_eq_false_iff_ne.mpr c20
            have c20b1 : (t119 != t120) = true := bne_iff_ne.mpr c20
            obtain rfl := Option.some.inj H
            go_enter Try.func3, Try.ntmps3
            go_wp2_with (first | ((with_reducible refine gate_callee (f := 10) rfl ?_); refine goesL_ (some 16) rfl rfl Try.func10 (by kernel_rfl) rfl #[] rfl (by (try simp only [List.map_toArray, List.map_cons, List.map_nil]); first | done | rfl | (simp only [List.length_drop, List.length_take]; rfl)) ?_; (with_reducible refine (flagstonelaw40_awake.calls k  true _ A7.out).mono ?_); rintro e w51 ⟨rfl, hb⟩; refine ⟨_, rfl, ?_⟩; have n0_ := Aside0.mk (below_step (by repeat (first | (with_reducible first | exact HB.out | apply below_alloc | apply pw_below_drewN | apply below_drew1) | exact HB.out)) hb); clear HB; have HB := n0_; clear n0_; (try clear hb); (try clear hb2); (try clear hk); (try clear hi)) | ((with_reducible refine gate_callee (f := 11) rfl ?_); refine goesL_ (some 43) rfl rfl Try.func11 (by kernel_rfl) rfl #[.int .i64 a0, .int .i64 a1, .int .i64 a2] rfl (by (try simp only [List.map_toArray, List.map_cons, List.map_nil]); first | done | rfl | (simp only [List.length_drop, List.length_take]; rfl)) ?_; (with_reducible refine (wealth_Grow.calls k a0 a1 a2 t119 _ A18.out).mono ?_); rintro e w52 ⟨rfl, hb⟩; refine ⟨_, rfl, ?_⟩; have n0_ := Aside0.mk (below_step (by repeat (first | (with_reducible first | exact HB.out | apply below_alloc | apply pw_below_drewN | apply below_drew1) | exact HB.out)) hb); clear HB; have HB := n0_; clear n0_; (try clear hb); (try clear hb2); (try clear hk); (try clear hi)) | ((with_reducible refine gate_callee (f := 12) rfl ?_); refine goesL_ (some 47) rfl rfl Try.func12 (by kernel_rfl) rfl #[.int .i64 a0, .int .i64 a1, .int .i64 a2] rfl (by (try simp only [List.map_toArray, List.map_cons, List.map_nil]); first | done | rfl | (simp only [List.length_drop, List.length_take]; rfl)) ?_; (with_reducible refine (flagstoneref40_Grow.calls k a0 a1 a2 t120 _ A19.out).mono ?_); rintro e w53 ⟨rfl, hb⟩; refine ⟨_, rfl, ?_⟩; have n0_ := Aside0.mk (below_step (by repeat (first | (with_reducible first | exact HB.out | apply below_alloc | apply pw_below_drewN | apply below_drew1) | exact HB.out)) hb); clear HB; have HB := n0_; clear n0_; (try clear hb); (try clear hb2); (try clear hk); (try clear hi)))
            go_ret
            exact ⟨by first | rfl | (simp [errW_none, errW_some] <;> rfl) | (simp only [← hji9, ← hji11, ← hji12, ← hji14, ← hji15, ← hji17]; first | rfl | (simp [errW_none, errW_some] <;> rfl)) | (simp [*, errW_none, errW_some] <;> rfl), by repeat (first | (with_reducible first | exact HB.out | apply below_alloc | apply pw_below_drewN | apply below_drew1) | exact HB.out)⟩
        · rw [if_neg c16] at H
          exact absurd H (by simp)
      · rw [if_neg c13] at H
        exact absurd H (by simp)
    · rw [if_neg c10] at H
      exact absurd H (by simp)
  · replace c8 := Bool.eq_false_iff.mpr c8
    subst c8
    have H1 : (some false) = some r := by rw [if_neg (show ¬ (false = true) by decide)] at H; exact H
    clear H
    have H := H1
    clear H1
    obtain rfl := Option.some.inj H
    go_enter Try.func3, Try.ntmps3
    go_wp2_with (first | ((with_reducible refine gate_callee (f := 10) rfl ?_); refine goesL_ (some 16) rfl rfl Try.func10 (by kernel_rfl) rfl #[] rfl (by (try simp only [List.map_toArray, List.map_cons, List.map_nil]); first | done | rfl | (simp only [List.length_drop, List.length_take]; rfl)) ?_; (with_reducible refine (flagstonelaw40_awake.calls k  false _ A7.out).mono ?_); rintro e w54 ⟨rfl, hb⟩; refine ⟨_, rfl, ?_⟩; have n0_ := Aside0.mk (below_step (by repeat (first | (with_reducible first | exact HB.out | apply below_alloc | apply pw_below_drewN | apply below_drew1) | exact HB.out)) hb); clear HB; have HB := n0_; clear n0_; (try clear hb); (try clear hb2); (try clear hk); (try clear hi)))
    go_ret
    exact ⟨by first | rfl | (simp [errW_none, errW_some] <;> rfl) | (simp [*, errW_none, errW_some] <;> rfl), by repeat (first | (with_reducible first | exact HB.out | apply below_alloc | apply pw_below_drewN | apply below_drew1) | exact HB.out)⟩

/-- THE ONE PURE STATEMENT of flagstonelaw40_WealthGrows: yours. -/
def flagstonelaw40_WealthGrows.Pure : Prop := ∀ (a0 : Int) (a1 : Int) (a2 : Int) (a3 : Int) (a4 : Int) (a5 : Int), (Lit.int .i64 a0).wf = true → (Lit.int .i64 a1).wf = true → (Lit.int .i64 a2).wf = true → (Lit.int .u8 a3).wf = true → (Lit.int .u8 a4).wf = true → (Lit.int .u8 a5).wf = true → ∃ k, flagstonelaw40_WealthGrows.f k a0 a1 a2 a3 a4 a5 = some true
theorem flagstonelaw40_WealthGrows.walk (P : flagstonelaw40_WealthGrows.Pure) (a0 : Int) (a1 : Int) (a2 : Int) (a3 : Int) (a4 : Int) (a5 : Int) (w : World) (w0 : (Lit.int .i64 a0).wf = true) (w1 : (Lit.int .i64 a1).wf = true) (w2 : (Lit.int .i64 a2).wf = true) (w3 : (Lit.int .u8 a3).wf = true) (w4 : (Lit.int .u8 a4).wf = true) (w5 : (Lit.int .u8 a5).wf = true) :
    Calls Try.prog 3 #[.int .i64 a0, .int .i64 a1, .int .i64 a2, .int .u8 a3, .int .u8 a4, .int .u8 a5] w fun e w' => e = .returned (.bool true) ∧ Below w.heap.size w w' := by
  obtain ⟨k, h⟩ := P a0 a1 a2 a3 a4 a5 w0 w1 w2 w3 w4 w5
  refine (flagstonelaw40_WealthGrows.calls k a0 a1 a2 a3 a4 a5 true w h).mono ?_
  rintro e w' ⟨rfl, hd⟩
  exact ⟨rfl, hd⟩

/-! ### flagstoneref39_Valid: function 29 -/
def flagstoneref39_Valid.f (a0_0 : Int) (a0_1 : Int) (a0_2 : Int) : Option (Bool) := if a0_1 ≥ 1 then (if a0_1 ≤ a0_2 then (if a0_2 ≤ 562949953421312 then (if a0_0 ≥ (wrap64 (a0_1 - a0_2)) then (some (decide (a0_0 ≤ (wrap64 (a0_2 - a0_1))))) else (some false)) else (some false)) else (some false)) else (some false)
set_option maxHeartbeats 8000000 in
set_option maxRecDepth 100000 in
theorem flagstoneref39_Valid.calls (a0_0 : Int) (a0_1 : Int) (a0_2 : Int) (r : Bool) (w : World) (h : flagstoneref39_Valid.f a0_0 a0_1 a0_2 = some r) :
    Calls Try.prog 29 #[.agg #[.int .i64 a0_0, .int .i64 a0_1, .int .i64 a0_2]] w fun e w' => e = .returned (.bool r) ∧ Below w.heap.size w w' := by
  have hu28 := Try.underlying28
  have HB := Aside0.mk (Below.refl w.heap.size w)
  have H : (if a0_1 ≥ 1 then (if a0_1 ≤ a0_2 then (if a0_2 ≤ 562949953421312 then (if a0_0 ≥ (wrap64 (a0_1 - a0_2)) then (some (decide (a0_0 ≤ (wrap64 (a0_2 - a0_1))))) else (some false)) else (some false)) else (some false)) else (some false)) = some r := h
  clear h
  by_cases c2 : a0_1 ≥ 1
  · rw [if_pos c2] at H
    have c2b0 : decide (1 ≤ a0_1) = true := decide_eq_true c2
    clear c2
    by_cases c3 : a0_1 ≤ a0_2
    · rw [if_pos c3] at H
      have c3b0 : decide (a0_1 ≤ a0_2) = true := decide_eq_true c3
      clear c3
      by_cases c4 : a0_2 ≤ 562949953421312
      · rw [if_pos c4] at H
        have c4b0 : decide (a0_2 ≤ 562949953421312) = true := decide_eq_true c4
        clear c4
        by_cases c5 : a0_0 ≥ (wrap64 (a0_1 - a0_2))
        · rw [if_pos c5] at H
          have c5b0 : decide ((wrap64 (a0_1 - a0_2)) ≤ a0_0) = true := decide_eq_true c5
          clear c5
          obtain rfl := Option.some.inj H
          go_enter Try.func29, Try.ntmps29
          go_wp2_with (first | ((with_reducible refine gate_dst (N := 1) rfl ?_); refine box_event ?hg (N := 1) ?hd (cs := #[.int .i64 a0_0, .int .i64 a0_1, .int .i64 a0_2]) (t := 28) ?hr ?_; (case hd => rfl); (case hg => rfl); (case hr => first | (go_simp; done) | (go_simp; rfl)); intro gb127 hg w6 hbox hb; have n0_ := Aside0.mk (below_step (by repeat (first | (with_reducible first | exact HB.out | apply below_alloc | apply pw_below_drewN | apply below_drew1) | exact HB.out)) hb); have n1_ := Aside0.mk (hbox); have n2_ := Aside0.mk ((by rw [hg]; exact (below_size (by repeat (first | (with_reducible first | exact HB.out | apply below_alloc | apply pw_below_drewN | apply below_drew1) | exact HB.out))) : w.heap.size ≤ gb127)); have n3_ := Aside0.mk ((by rw [hg]; exact (below_size (by repeat (first | (with_reducible first | exact HB.out | apply below_alloc | apply pw_below_drewN | apply below_drew1) | exact HB.out))) : w.heap.size ≤ gb127)); clear HB; have HB := n0_; have BK127 := n1_; have GW127 := n2_; have GE127 := n3_; clear n0_ n1_ n2_ n3_; clear hb hbox hg; have hcz7_0 : w6.cell? ⟨gb127, 0, none⟩ = some (.int .i64 a0_0) := (blk_cell BK127.out 0).trans rfl; have hcz7_1 : w6.cell? ⟨gb127, 1, none⟩ = some (.int .i64 a0_1) := (blk_cell BK127.out 1).trans rfl; have hcz7_2 : w6.cell? ⟨gb127, 2, none⟩ = some (.int .i64 a0_2) := (blk_cell BK127.out 2).trans rfl; have hfz7_0 := blk_frozen BK127.out 0; have hfz7_1 := blk_frozen BK127.out 1; have hfz7_2 := blk_frozen BK127.out 2))
          go_ret
          exact ⟨by first | rfl | (simp [errW_none, errW_some] <;> rfl) | (simp [*, errW_none, errW_some] <;> rfl), by repeat (first | (with_reducible first | exact HB.out | apply below_alloc | apply pw_below_drewN | apply below_drew1 | refine below_set ?_ GE127.out) | exact HB.out)⟩
        · rw [if_neg c5] at H
          have c5b0 : decide ((wrap64 (a0_1 - a0_2)) ≤ a0_0) = false := decide_eq_false c5
          clear c5
          obtain rfl := Option.some.inj H
          go_enter Try.func29, Try.ntmps29
          go_wp2_with (first | ((with_reducible refine gate_dst (N := 1) rfl ?_); refine box_event ?hg (N := 1) ?hd (cs := #[.int .i64 a0_0, .int .i64 a0_1, .int .i64 a0_2]) (t := 28) ?hr ?_; (case hd => rfl); (case hg => rfl); (case hr => first | (go_simp; done) | (go_simp; rfl)); intro gb127 hg w8 hbox hb; have n0_ := Aside0.mk (below_step (by repeat (first | (with_reducible first | exact HB.out | apply below_alloc | apply pw_below_drewN | apply below_drew1) | exact HB.out)) hb); have n1_ := Aside0.mk (hbox); have n2_ := Aside0.mk ((by rw [hg]; exact (below_size (by repeat (first | (with_reducible first | exact HB.out | apply below_alloc | apply pw_below_drewN | apply below_drew1) | exact HB.out))) : w.heap.size ≤ gb127)); have n3_ := Aside0.mk ((by rw [hg]; exact (below_size (by repeat (first | (with_reducible first | exact HB.out | apply below_alloc | apply pw_below_drewN | apply below_drew1) | exact HB.out))) : w.heap.size ≤ gb127)); clear HB; have HB := n0_; have BK127 := n1_; have GW127 := n2_; have GE127 := n3_; clear n0_ n1_ n2_ n3_; clear hb hbox hg; have hcz9_0 : w8.cell? ⟨gb127, 0, none⟩ = some (.int .i64 a0_0) := (blk_cell BK127.out 0).trans rfl; have hcz9_1 : w8.cell? ⟨gb127, 1, none⟩ = some (.int .i64 a0_1) := (blk_cell BK127.out 1).trans rfl; have hcz9_2 : w8.cell? ⟨gb127, 2, none⟩ = some (.int .i64 a0_2) := (blk_cell BK127.out 2).trans rfl; have hfz9_0 := blk_frozen BK127.out 0; have hfz9_1 := blk_frozen BK127.out 1; have hfz9_2 := blk_frozen BK127.out 2))
          go_ret
          exact ⟨by first | rfl | (simp [errW_none, errW_some] <;> rfl) | (simp [*, errW_none, errW_some] <;> rfl), by repeat (first | (with_reducible first | exact HB.out | apply below_alloc | apply pw_below_drewN | apply below_drew1 | refine below_set ?_ GE127.out) | exact HB.out)⟩
      · rw [if_neg c4] at H
        have c4b0 : decide (a0_2 ≤ 562949953421312) = false := decide_eq_false c4
        clear c4
        obtain rfl := Option.some.inj H
        go_enter Try.func29, Try.ntmps29
        go_wp2_with (first | ((with_reducible refine gate_dst (N := 1) rfl ?_); refine box_event ?hg (N := 1) ?hd (cs := #[.int .i64 a0_0, .int .i64 a0_1, .int .i64 a0_2]) (t := 28) ?hr ?_; (case hd => rfl); (case hg => rfl); (case hr => first | (go_simp; done) | (go_simp; rfl)); intro gb127 hg w10 hbox hb; have n0_ := Aside0.mk (below_step (by repeat (first | (with_reducible first | exact HB.out | apply below_alloc | apply pw_below_drewN | apply below_drew1) | exact HB.out)) hb); have n1_ := Aside0.mk (hbox); have n2_ := Aside0.mk ((by rw [hg]; exact (below_size (by repeat (first | (with_reducible first | exact HB.out | apply below_alloc | apply pw_below_drewN | apply below_drew1) | exact HB.out))) : w.heap.size ≤ gb127)); have n3_ := Aside0.mk ((by rw [hg]; exact (below_size (by repeat (first | (with_reducible first | exact HB.out | apply below_alloc | apply pw_below_drewN | apply below_drew1) | exact HB.out))) : w.heap.size ≤ gb127)); clear HB; have HB := n0_; have BK127 := n1_; have GW127 := n2_; have GE127 := n3_; clear n0_ n1_ n2_ n3_; clear hb hbox hg; have hcz11_0 : w10.cell? ⟨gb127, 0, none⟩ = some (.int .i64 a0_0) := (blk_cell BK127.out 0).trans rfl; have hcz11_1 : w10.cell? ⟨gb127, 1, none⟩ = some (.int .i64 a0_1) := (blk_cell BK127.out 1).trans rfl; have hcz11_2 : w10.cell? ⟨gb127, 2, none⟩ = some (.int .i64 a0_2) := (blk_cell BK127.out 2).trans rfl; have hfz11_0 := blk_frozen BK127.out 0; have hfz11_1 := blk_frozen BK127.out 1; have hfz11_2 := blk_frozen BK127.out 2))
        go_ret
        exact ⟨by first | rfl | (simp [errW_none, errW_some] <;> rfl) | (simp [*, errW_none, errW_some] <;> rfl), by repeat (first | (with_reducible first | exact HB.out | apply below_alloc | apply pw_below_drewN | apply below_drew1 | refine below_set ?_ GE127.out) | exact HB.out)⟩
    · rw [if_neg c3] at H
      have c3b0 : decide (a0_1 ≤ a0_2) = false := decide_eq_false c3
      clear c3
      obtain rfl := Option.some.inj H
      go_enter Try.func29, Try.ntmps29
      go_wp2_with (first | ((with_reducible refine gate_dst (N := 1) rfl ?_); refine box_event ?hg (N := 1) ?hd (cs := #[.int .i64 a0_0, .int .i64 a0_1, .int .i64 a0_2]) (t := 28) ?hr ?_; (case hd => rfl); (case hg => rfl); (case hr => first | (go_simp; done) | (go_simp; rfl)); intro gb127 hg w12 hbox hb; have n0_ := Aside0.mk (below_step (by repeat (first | (with_reducible first | exact HB.out | apply below_alloc | apply pw_below_drewN | apply below_drew1) | exact HB.out)) hb); have n1_ := Aside0.mk (hbox); have n2_ := Aside0.mk ((by rw [hg]; exact (below_size (by repeat (first | (with_reducible first | exact HB.out | apply below_alloc | apply pw_below_drewN | apply below_drew1) | exact HB.out))) : w.heap.size ≤ gb127)); have n3_ := Aside0.mk ((by rw [hg]; exact (below_size (by repeat (first | (with_reducible first | exact HB.out | apply below_alloc | apply pw_below_drewN | apply below_drew1) | exact HB.out))) : w.heap.size ≤ gb127)); clear HB; have HB := n0_; have BK127 := n1_; have GW127 := n2_; have GE127 := n3_; clear n0_ n1_ n2_ n3_; clear hb hbox hg; have hcz13_0 : w12.cell? ⟨gb127, 0, none⟩ = some (.int .i64 a0_0) := (blk_cell BK127.out 0).trans rfl; have hcz13_1 : w12.cell? ⟨gb127, 1, none⟩ = some (.int .i64 a0_1) := (blk_cell BK127.out 1).trans rfl; have hcz13_2 : w12.cell? ⟨gb127, 2, none⟩ = some (.int .i64 a0_2) := (blk_cell BK127.out 2).trans rfl; have hfz13_0 := blk_frozen BK127.out 0; have hfz13_1 := blk_frozen BK127.out 1; have hfz13_2 := blk_frozen BK127.out 2))
      go_ret
      exact ⟨by first | rfl | (simp [errW_none, errW_some] <;> rfl) | (simp [*, errW_none, errW_some] <;> rfl), by repeat (first | (with_reducible first | exact HB.out | apply below_alloc | apply pw_below_drewN | apply below_drew1 | refine below_set ?_ GE127.out) | exact HB.out)⟩
  · rw [if_neg c2] at H
    have c2b0 : decide (1 ≤ a0_1) = false := decide_eq_false c2
    clear c2
    obtain rfl := Option.some.inj H
    go_enter Try.func29, Try.ntmps29
    go_wp2_with (first | ((with_reducible refine gate_dst (N := 1) rfl ?_); refine box_event ?hg (N := 1) ?hd (cs := #[.int .i64 a0_0, .int .i64 a0_1, .int .i64 a0_2]) (t := 28) ?hr ?_; (case hd => rfl); (case hg => rfl); (case hr => first | (go_simp; done) | (go_simp; rfl)); intro gb127 hg w14 hbox hb; have n0_ := Aside0.mk (below_step (by repeat (first | (with_reducible first | exact HB.out | apply below_alloc | apply pw_below_drewN | apply below_drew1) | exact HB.out)) hb); have n1_ := Aside0.mk (hbox); have n2_ := Aside0.mk ((by rw [hg]; exact (below_size (by repeat (first | (with_reducible first | exact HB.out | apply below_alloc | apply pw_below_drewN | apply below_drew1) | exact HB.out))) : w.heap.size ≤ gb127)); have n3_ := Aside0.mk ((by rw [hg]; exact (below_size (by repeat (first | (with_reducible first | exact HB.out | apply below_alloc | apply pw_below_drewN | apply below_drew1) | exact HB.out))) : w.heap.size ≤ gb127)); clear HB; have HB := n0_; have BK127 := n1_; have GW127 := n2_; have GE127 := n3_; clear n0_ n1_ n2_ n3_; clear hb hbox hg; have hcz15_0 : w14.cell? ⟨gb127, 0, none⟩ = some (.int .i64 a0_0) := (blk_cell BK127.out 0).trans rfl; have hcz15_1 : w14.cell? ⟨gb127, 1, none⟩ = some (.int .i64 a0_1) := (blk_cell BK127.out 1).trans rfl; have hcz15_2 : w14.cell? ⟨gb127, 2, none⟩ = some (.int .i64 a0_2) := (blk_cell BK127.out 2).trans rfl; have hfz15_0 := blk_frozen BK127.out 0; have hfz15_1 := blk_frozen BK127.out 1; have hfz15_2 := blk_frozen BK127.out 2))
    go_ret
    exact ⟨by first | rfl | (simp [errW_none, errW_some] <;> rfl) | (simp [*, errW_none, errW_some] <;> rfl), by repeat (first | (with_reducible first | exact HB.out | apply below_alloc | apply pw_below_drewN | apply below_drew1 | refine below_set ?_ GE127.out) | exact HB.out)⟩

/-! ### flagstoneref40_Factor: function 14 -/
def flagstoneref40_Factor.j0 : Nat → Int → Int → Bool → Bool → Int → Int → Int → Option (Int × Int)
  | 0, _, _, _, _, _, _, _ => none
  | k + 1, x1, x2, x3, x29, x129000, x129001, x129002 => if x29 = true then (some (1, 1)) else (if x3 = true then (some (wrap64 ((wrap64 ((wrap64 (8 * x129002)) * 1000)) + (wrap64 (x2 * (wrap64 ((wrap64 (x129000 * 1000)) - (wrap64 (x129001 * x1))))))), wrap64 ((wrap64 (8 * x129002)) * 1000))) else (some (wrap64 ((wrap64 ((wrap64 (8 * x129002)) * 1000)) - (wrap64 (x2 * (wrap64 ((wrap64 (x129000 * 1000)) - (wrap64 (x129001 * x1))))))), wrap64 ((wrap64 (8 * x129002)) * 1000))))
def flagstoneref40_Factor.f (k : Nat) (a0_0 : Int) (a0_1 : Int) (a0_2 : Int) (a1 : Int) (a2 : Int) (a3 : Bool) : Option (Int × Int) := (flagstoneref39_Valid.f a0_0 a0_1 a0_2).bind fun t129 => (if t129 = true then (if a1 < (-1000) then (flagstoneref40_Factor.j0 k a1 a2 a3 true a0_0 a0_1 a0_2) else (if a1 > 1000 then (flagstoneref40_Factor.j0 k a1 a2 a3 true a0_0 a0_1 a0_2) else (if a2 < 0 then (flagstoneref40_Factor.j0 k a1 a2 a3 true a0_0 a0_1 a0_2) else (flagstoneref40_Factor.j0 k a1 a2 a3 (decide (a2 > 4)) a0_0 a0_1 a0_2)))) else (flagstoneref40_Factor.j0 k a1 a2 a3 true a0_0 a0_1 a0_2))
theorem flagstoneref40_Factor.mono_l : ∀ k, (∀ y0 y1 y2 y3 y4 y5 y6, LeO (flagstoneref40_Factor.j0 k y0 y1 y2 y3 y4 y5 y6) (flagstoneref40_Factor.j0 (k + 1) y0 y1 y2 y3 y4 y5 y6))
  | 0 => fun _ _ _ _ _ _ _ r h => by simp [flagstoneref40_Factor.j0] at h
  | k + 1 => by
    have ih0 := flagstoneref40_Factor.mono_l k
    · intro y0 y1 y2 y3 y4 y5 y6
      unfold flagstoneref40_Factor.j0
      repeat' first
      | (with_reducible exact ih0 _ _ _ _ _ _ _)
      | (with_reducible exact LeO.refl _)
      | (with_reducible exact LeO.none _)
      | (with_reducible refine LeO.ite ?_ ?_)
      | (with_reducible refine LeO.bind ?_ (fun _ => ?_))
      | exact ih0 _ _ _ _ _ _ _
      | exact LeO.none _
      | refine LeO.ite ?_ ?_
      | refine LeO.bind ?_ (fun _ => ?_)
theorem flagstoneref40_Factor.mono : ∀ a0 a1 a2 a3 a4 a5 k, LeO (flagstoneref40_Factor.f k a0 a1 a2 a3 a4 a5) (flagstoneref40_Factor.f (k + 1) a0 a1 a2 a3 a4 a5) := by
  intro a0 a1 a2 a3 a4 a5 k
  have ih0 := flagstoneref40_Factor.mono_l k
  unfold flagstoneref40_Factor.f
  repeat' first
      | (with_reducible exact ih0 _ _ _ _ _ _ _)
      | (with_reducible exact LeO.refl _)
      | (with_reducible exact LeO.none _)
      | (with_reducible refine LeO.ite ?_ ?_)
      | (with_reducible refine LeO.bind ?_ (fun _ => ?_))
      | exact ih0 _ _ _ _ _ _ _
      | exact LeO.none _
      | refine LeO.ite ?_ ?_
      | refine LeO.bind ?_ (fun _ => ?_)
set_option maxHeartbeats 8000000 in
set_option maxRecDepth 100000 in
theorem flagstoneref40_Factor.calls (k : Nat) (a0_0 : Int) (a0_1 : Int) (a0_2 : Int) (a1 : Int) (a2 : Int) (a3 : Bool) (r1 : Int) (r2 : Int) (w : World) (h : flagstoneref40_Factor.f k a0_0 a0_1 a0_2 a1 a2 a3 = some (r1, r2)) :
    Calls Try.prog 14 #[.agg #[.int .i64 a0_0, .int .i64 a0_1, .int .i64 a0_2], .int .i64 a1, .int .i64 a2, .bool a3] w fun e w' => e = .returned (.tuple #[.int .i64 r1, .int .i64 r2]) ∧ Below w.heap.size w w' := by
  have hu28 := Try.underlying28
  have HB := Aside0.mk (Below.refl w.heap.size w)
  have H : ((flagstoneref39_Valid.f a0_0 a0_1 a0_2).bind fun t129 => (if t129 = true then (if a1 < (-1000) then (flagstoneref40_Factor.j0 k a1 a2 a3 true a0_0 a0_1 a0_2) else (if a1 > 1000 then (flagstoneref40_Factor.j0 k a1 a2 a3 true a0_0 a0_1 a0_2) else (if a2 < 0 then (flagstoneref40_Factor.j0 k a1 a2 a3 true a0_0 a0_1 a0_2) else (flagstoneref40_Factor.j0 k a1 a2 a3 (decide (a2 > 4)) a0_0 a0_1 a0_2)))) else (flagstoneref40_Factor.j0 k a1 a2 a3 true a0_0 a0_1 a0_2))) = some (r1, r2) := h
  clear h
  have HC5 := Aside0.mk H
  clear H
  go_enter Try.func14, Try.ntmps14
  go_upto_region 1 with (first | ((with_reducible refine gate_dst (N := 4) rfl ?_); refine box_event ?hg (N := 4) ?hd (cs := #[.int .i64 a0_0, .int .i64 a0_1, .int .i64 a0_2]) (t := 28) ?hr ?_; (case hd => rfl); (case hg => rfl); (case hr => first | (go_simp; done) | (go_simp; rfl)); intro gb128 hg w6 hbox hb; have n0_ := Aside0.mk (below_step (by repeat (first | (with_reducible first | exact HB.out | apply below_alloc | apply pw_below_drewN | apply below_drew1) | exact HB.out)) hb); have n1_ := Aside0.mk (hbox); have n2_ := Aside0.mk ((by rw [hg]; exact (below_size (by repeat (first | (with_reducible first | exact HB.out | apply below_alloc | apply pw_below_drewN | apply below_drew1) | exact HB.out))) : w.heap.size ≤ gb128)); have n3_ := Aside0.mk ((by rw [hg]; exact (below_size (by repeat (first | (with_reducible first | exact HB.out | apply below_alloc | apply pw_below_drewN | apply below_drew1) | exact HB.out))) : w.heap.size ≤ gb128)); clear HB; have HB := n0_; have BK128 := n1_; have GW128 := n2_; have GE128 := n3_; clear n0_ n1_ n2_ n3_; clear hb hbox hg))
  (try simp only [Act.put, List.setIfInBounds_toArray, List.set_cons_zero, List.set_cons_succ])
  go_cut [29] (fun v29 wc => ∃ (kq : Nat) (x29_4 : Bool), v29 = .bool x29_4 ∧ Aside0 (flagstoneref40_Factor.j0 kq a1 a2 a3 x29_4 a0_0 a0_1 a0_2 = some (r1, r2)) ∧ Aside0 (kq ≤ k) ∧ Aside0 (wc.heap[gb128]? = some (.cells #[.int .i64 a0_0, .int .i64 a0_1, .int .i64 a0_2] 28 (0, 0))) ∧ Aside0 (Below w.heap.size w wc))
  case first =>
    have H := HC5.out
    clear HC5
    replace H := Option.bind_eq_some_iff.mp H
    obtain ⟨t129, A70, H⟩ := H
    replace H : (if t129 = true then (if a1 < (-1000) then (flagstoneref40_Factor.j0 k a1 a2 a3 true a0_0 a0_1 a0_2) else (if a1 > 1000 then (flagstoneref40_Factor.j0 k a1 a2 a3 true a0_0 a0_1 a0_2) else (if a2 < 0 then (flagstoneref40_Factor.j0 k a1 a2 a3 true a0_0 a0_1 a0_2) else (flagstoneref40_Factor.j0 k a1 a2 a3 (decide (a2 > 4)) a0_0 a0_1 a0_2)))) else (flagstoneref40_Factor.j0 k a1 a2 a3 true a0_0 a0_1 a0_2)) = some (r1, r2) := H
    have A7 := Aside0.mk A70
    clear A70
    by_cases c8 : t129 = true
    · subst c8
      have H1 : (if a1 < (-1000) then (flagstoneref40_Factor.j0 k a1 a2 a3 true a0_0 a0_1 a0_2) else (if a1 > 1000 then (flagstoneref40_Factor.j0 k a1 a2 a3 true a0_0 a0_1 a0_2) else (if a2 < 0 then (flagstoneref40_Factor.j0 k a1 a2 a3 true a0_0 a0_1 a0_2) else (flagstoneref40_Factor.j0 k a1 a2 a3 (decide (a2 > 4)) a0_0 a0_1 a0_2)))) = some (r1, r2) := by rw [if_pos rfl] at H; exact H
      clear H
      have H := H1
      clear H1
      by_cases c9 : a1 < (-1000)
      · rw [if_pos c9] at H
        have c9b0 : decide (a1 < (-1000)) = true := decide_eq_true c9
        clear c9
        (first | rw [c9b0] | (simp only [i64_w, i32_w]; rw [c9b0]) | skip)
        have H' := Aside0.mk H
        clear H
        have hcz10_0 : w6.cell? ⟨gb128, 0, none⟩ = some (.int .i64 a0_0) := (blk_cell BK128.out 0).trans rfl
        have hcz10_1 : w6.cell? ⟨gb128, 1, none⟩ = some (.int .i64 a0_1) := (blk_cell BK128.out 1).trans rfl
        have hcz10_2 : w6.cell? ⟨gb128, 2, none⟩ = some (.int .i64 a0_2) := (blk_cell BK128.out 2).trans rfl
        have hfz10_0 := blk_frozen BK128.out 0
        have hfz10_1 := blk_frozen BK128.out 1
        have hfz10_2 := blk_frozen BK128.out 2
        go_wp2_with (first | ((with_reducible refine gate_callee (f := 29) rfl ?_); refine goesL_ (some 12) rfl rfl Try.func29 (by kernel_rfl) rfl #[.agg #[.int .i64 a0_0, .int .i64 a0_1, .int .i64 a0_2]] rfl (by (try simp only [List.map_toArray, List.map_cons, List.map_nil]); first | done | rfl | (simp only [List.length_drop, List.length_take]; rfl)) ?_; (with_reducible refine (flagstoneref39_Valid.calls a0_0 a0_1 a0_2 true _ A7.out).mono ?_); rintro e w11 ⟨rfl, hb⟩; refine ⟨_, rfl, ?_⟩; have n0_ := Aside0.mk (blk_below (g := gb128) (o := .cells #[.int .i64 a0_0, .int .i64 a0_1, .int .i64 a0_2] 28 (0, 0)) (by (with_reducible repeat (first | refine blk_drewN ?_ _ | refine blk_drew ?_ | refine blk_alloc ?_ _)); exact BK128.out) hb); have n1_ := Aside0.mk (below_step (by repeat (first | (with_reducible first | exact HB.out | apply below_alloc | apply pw_below_drewN | apply below_drew1 | refine below_set ?_ GE128.out) | exact HB.out)) hb); clear BK128; clear HB; have BK128 := n0_; have HB := n1_; clear n0_ n1_; (try clear hb); (try clear hb2); (try clear hk); (try clear hi)))
        go_meet
        case rel => exact ⟨_, (true), (by first | rfl | (simp; done) | (simp [*]; done)), H', ⟨by first | omega | exact Nat.le_refl _⟩, ⟨by (with_reducible repeat (first | refine blk_drewN ?_ _ | refine blk_drew ?_ | refine blk_alloc ?_ _)); exact BK128.out⟩, ⟨by repeat (first | (with_reducible first | exact HB.out | apply below_alloc | apply pw_below_drewN | apply below_drew1 | refine below_set ?_ GE128.out) | exact HB.out)⟩⟩
      · rw [if_neg c9] at H
        have c9b0 : decide (a1 < (-1000)) = false := decide_eq_false c9
        clear c9
        (first | rw [c9b0] | (simp only [i64_w, i32_w]; rw [c9b0]) | skip)
        by_cases c12 : a1 > 1000
        · rw [if_pos c12] at H
          have c12b0 : decide (1000 < a1) = true := decide_eq_true c12
          clear c12
          have H' := Aside0.mk H
          clear H
          have hcz13_0 : w6.cell? ⟨gb128, 0, none⟩ = some (.int .i64 a0_0) := (blk_cell BK128.out 0).trans rfl
          have hcz13_1 : w6.cell? ⟨gb128, 1, none⟩ = some (.int .i64 a0_1) := (blk_cell BK128.out 1).trans rfl
          have hcz13_2 : w6.cell? ⟨gb128, 2, none⟩ = some (.int .i64 a0_2) := (blk_cell BK128.out 2).trans rfl
          have hfz13_0 := blk_frozen BK128.out 0
          have hfz13_1 := blk_frozen BK128.out 1
          have hfz13_2 := blk_frozen BK128.out 2
          go_wp2_with (first | ((with_reducible refine gate_callee (f := 29) rfl ?_); refine goesL_ (some 12) rfl rfl Try.func29 (by kernel_rfl) rfl #[.agg #[.int .i64 a0_0, .int .i64 a0_1, .int .i64 a0_2]] rfl (by (try simp only [List.map_toArray, List.map_cons, List.map_nil]); first | done | rfl | (simp only [List.length_drop, List.length_take]; rfl)) ?_; (with_reducible refine (flagstoneref39_Valid.calls a0_0 a0_1 a0_2 true _ A7.out).mono ?_); rintro e w14 ⟨rfl, hb⟩; refine ⟨_, rfl, ?_⟩; have n0_ := Aside0.mk (blk_below (g := gb128) (o := .cells #[.int .i64 a0_0, .int .i64 a0_1, .int .i64 a0_2] 28 (0, 0)) (by (with_reducible repeat (first | refine blk_drewN ?_ _ | refine blk_drew ?_ | refine blk_alloc ?_ _)); exact BK128.out) hb); have n1_ := Aside0.mk (below_step (by repeat (first | (with_reducible first | exact HB.out | apply below_alloc | apply pw_below_drewN | apply below_drew1 | refine below_set ?_ GE128.out) | exact HB.out)) hb); clear BK128; clear HB; have BK128 := n0_; have HB := n1_; clear n0_ n1_; (try clear hb); (try clear hb2); (try clear hk); (try clear hi)))
          go_meet
          case rel => exact ⟨_, (true), (by first | rfl | (simp; done) | (simp [*]; done)), H', ⟨by first | omega | exact Nat.le_refl _⟩, ⟨by (with_reducible repeat (first | refine blk_drewN ?_ _ | refine blk_drew ?_ | refine blk_alloc ?_ _)); exact BK128.out⟩, ⟨by repeat (first | (with_reducible first | exact HB.out | apply below_alloc | apply pw_below_drewN | apply below_drew1 | refine below_set ?_ GE128.out) | exact HB.out)⟩⟩
        · rw [if_neg c12] at H
          have c12b0 : decide (1000 < a1) = false := decide_eq_false c12
          clear c12
          by_cases c15 : a2 < 0
          · rw [if_pos c15] at H
            have c15b0 : decide (a2 < 0) = true := decide_eq_true c15
            clear c15
            have H' := Aside0.mk H
            clear H
            have hcz16_0 : w6.cell? ⟨gb128, 0, none⟩ = some (.int .i64 a0_0) := (blk_cell BK128.out 0).trans rfl
            have hcz16_1 : w6.cell? ⟨gb128, 1, none⟩ = some (.int .i64 a0_1) := (blk_cell BK128.out 1).trans rfl
            have hcz16_2 : w6.cell? ⟨gb128, 2, none⟩ = some (.int .i64 a0_2) := (blk_cell BK128.out 2).trans rfl
            have hfz16_0 := blk_frozen BK128.out 0
            have hfz16_1 := blk_frozen BK128.out 1
            have hfz16_2 := blk_frozen BK128.out 2
            go_wp2_with (first | ((with_reducible refine gate_callee (f := 29) rfl ?_); refine goesL_ (some 12) rfl rfl Try.func29 (by kernel_rfl) rfl #[.agg #[.int .i64 a0_0, .int .i64 a0_1, .int .i64 a0_2]] rfl (by (try simp only [List.map_toArray, List.map_cons, List.map_nil]); first | done | rfl | (simp only [List.length_drop, List.length_take]; rfl)) ?_; (with_reducible refine (flagstoneref39_Valid.calls a0_0 a0_1 a0_2 true _ A7.out).mono ?_); rintro e w17 ⟨rfl, hb⟩; refine ⟨_, rfl, ?_⟩; have n0_ := Aside0.mk (blk_below (g := gb128) (o := .cells #[.int .i64 a0_0, .int .i64 a0_1, .int .i64 a0_2] 28 (0, 0)) (by (with_reducible repeat (first | refine blk_drewN ?_ _ | refine blk_drew ?_ | refine blk_alloc ?_ _)); exact BK128.out) hb); have n1_ := Aside0.mk (below_step (by repeat (first | (with_reducible first | exact HB.out | apply below_alloc | apply pw_below_drewN | apply below_drew1 | refine below_set ?_ GE128.out) | exact HB.out)) hb); clear BK128; clear HB; have BK128 := n0_; have HB := n1_; clear n0_ n1_; (try clear hb); (try clear hb2); (try clear hk); (try clear hi)))
            go_meet
            case rel => exact ⟨_, (true), (by first | rfl | (simp; done) | (simp [*]; done)), H', ⟨by first | omega | exact Nat.le_refl _⟩, ⟨by (with_reducible repeat (first | refine blk_drewN ?_ _ | refine blk_drew ?_ | refine blk_alloc ?_ _)); exact BK128.out⟩, ⟨by repeat (first | (with_reducible first | exact HB.out | apply below_alloc | apply pw_below_drewN | apply below_drew1 | refine below_set ?_ GE128.out) | exact HB.out)⟩⟩
          · rw [if_neg c15] at H
            have c15b0 : decide (a2 < 0) = false := decide_eq_false c15
            clear c15
            have H' := Aside0.mk H
            clear H
            have hcz18_0 : w6.cell? ⟨gb128, 0, none⟩ = some (.int .i64 a0_0) := (blk_cell BK128.out 0).trans rfl
            have hcz18_1 : w6.cell? ⟨gb128, 1, none⟩ = some (.int .i64 a0_1) := (blk_cell BK128.out 1).trans rfl
            have hcz18_2 : w6.cell? ⟨gb128, 2, none⟩ = some (.int .i64 a0_2) := (blk_cell BK128.out 2).trans rfl
            have hfz18_0 := blk_frozen BK128.out 0
            have hfz18_1 := blk_frozen BK128.out 1
            have hfz18_2 := blk_frozen BK128.out 2
            go_wp2_with (first | ((with_reducible refine gate_callee (f := 29) rfl ?_); refine goesL_ (some 12) rfl rfl Try.func29 (by kernel_rfl) rfl #[.agg #[.int .i64 a0_0, .int .i64 a0_1, .int .i64 a0_2]] rfl (by (try simp only [List.map_toArray, List.map_cons, List.map_nil]); first | done | rfl | (simp only [List.length_drop, List.length_take]; rfl)) ?_; (with_reducible refine (flagstoneref39_Valid.calls a0_0 a0_1 a0_2 true _ A7.out).mono ?_); rintro e w19 ⟨rfl, hb⟩; refine ⟨_, rfl, ?_⟩; have n0_ := Aside0.mk (blk_below (g := gb128) (o := .cells #[.int .i64 a0_0, .int .i64 a0_1, .int .i64 a0_2] 28 (0, 0)) (by (with_reducible repeat (first | refine blk_drewN ?_ _ | refine blk_drew ?_ | refine blk_alloc ?_ _)); exact BK128.out) hb); have n1_ := Aside0.mk (below_step (by repeat (first | (with_reducible first | exact HB.out | apply below_alloc | apply pw_below_drewN | apply below_drew1 | refine below_set ?_ GE128.out) | exact HB.out)) hb); clear BK128; clear HB; have BK128 := n0_; have HB := n1_; clear n0_ n1_; (try clear hb); (try clear hb2); (try clear hk); (try clear hi)))
            go_meet
            case rel => exact ⟨_, (decide (a2 > 4)), (by first | rfl | (simp; done) | (simp [*]; done)), H', ⟨by first | omega | exact Nat.le_refl _⟩, ⟨by (with_reducible repeat (first | refine blk_drewN ?_ _ | refine blk_drew ?_ | refine blk_alloc ?_ _)); exact BK128.out⟩, ⟨by repeat (first | (with_reducible first | exact HB.out | apply below_alloc | apply pw_below_drewN | apply below_drew1 | refine below_set ?_ GE128.out) | exact HB.out)⟩⟩
    · replace c8 := Bool.eq_false_iff.mpr c8
      subst c8
      have H1 : (flagstoneref40_Factor.j0 k a1 a2 a3 true a0_0 a0_1 a0_2) = some (r1, r2) := by rw [if_neg (show ¬ (false = true) by decide)] at H; exact H
      clear H
      have H := H1
      clear H1
      have H' := Aside0.mk H
      clear H
      have hcz20_0 : w6.cell? ⟨gb128, 0, none⟩ = some (.int .i64 a0_0) := (blk_cell BK128.out 0).trans rfl
      have hcz20_1 : w6.cell? ⟨gb128, 1, none⟩ = some (.int .i64 a0_1) := (blk_cell BK128.out 1).trans rfl
      have hcz20_2 : w6.cell? ⟨gb128, 2, none⟩ = some (.int .i64 a0_2) := (blk_cell BK128.out 2).trans rfl
      have hfz20_0 := blk_frozen BK128.out 0
      have hfz20_1 := blk_frozen BK128.out 1
      have hfz20_2 := blk_frozen BK128.out 2
      go_wp2_with (first | ((with_reducible refine gate_callee (f := 29) rfl ?_); refine goesL_ (some 12) rfl rfl Try.func29 (by kernel_rfl) rfl #[.agg #[.int .i64 a0_0, .int .i64 a0_1, .int .i64 a0_2]] rfl (by (try simp only [List.map_toArray, List.map_cons, List.map_nil]); first | done | rfl | (simp only [List.length_drop, List.length_take]; rfl)) ?_; (with_reducible refine (flagstoneref39_Valid.calls a0_0 a0_1 a0_2 false _ A7.out).mono ?_); rintro e w21 ⟨rfl, hb⟩; refine ⟨_, rfl, ?_⟩; have n0_ := Aside0.mk (blk_below (g := gb128) (o := .cells #[.int .i64 a0_0, .int .i64 a0_1, .int .i64 a0_2] 28 (0, 0)) (by (with_reducible repeat (first | refine blk_drewN ?_ _ | refine blk_drew ?_ | refine blk_alloc ?_ _)); exact BK128.out) hb); have n1_ := Aside0.mk (below_step (by repeat (first | (with_reducible first | exact HB.out | apply below_alloc | apply pw_below_drewN | apply below_drew1 | refine below_set ?_ GE128.out) | exact HB.out)) hb); clear BK128; clear HB; have BK128 := n0_; have HB := n1_; clear n0_ n1_; (try clear hb); (try clear hb2); (try clear hk); (try clear hi)))
      go_meet
      case rel => exact ⟨_, (true), (by first | rfl | (simp; done) | (simp [*]; done)), H', ⟨by first | omega | exact Nat.le_refl _⟩, ⟨by (with_reducible repeat (first | refine blk_drewN ?_ _ | refine blk_drew ?_ | refine blk_alloc ?_ _)); exact BK128.out⟩, ⟨by repeat (first | (with_reducible first | exact HB.out | apply below_alloc | apply pw_below_drewN | apply below_drew1 | refine below_set ?_ GE128.out) | exact HB.out)⟩⟩
  case rest =>
    clear HC5
    try clear c1
    try clear c2
    try clear p2
    try clear c8
    try clear c9
    try clear c9b0
    try clear c12
    try clear c12b0
    try clear c14
    try clear c15
    try clear c15b0
    try clear hcz10_0
    try clear hcz10_1
    try clear hcz10_2
    try clear hcz13_0
    try clear hcz13_1
    try clear hcz13_2
    try clear hcz16_0
    try clear hcz16_1
    try clear hcz16_2
    try clear hcz18_0
    try clear hcz18_1
    try clear hcz18_2
    try clear hcz20_0
    try clear hcz20_1
    try clear hcz20_2
    try clear hfz10_0
    try clear hfz10_1
    try clear hfz10_2
    try clear hfz13_0
    try clear hfz13_1
    try clear hfz13_2
    try clear hfz16_0
    try clear hfz16_1
    try clear hfz16_2
    try clear hfz18_0
    try clear hfz18_1
    try clear hfz18_2
    try clear hfz20_0
    try clear hfz20_1
    try clear hfz20_2
    obtain ⟨kq, x29_4, rfl, HA, HJ4, BK128, HB⟩ := hcut
    cases kq with
    | zero => exact absurd HA.out (by simp [flagstoneref40_Factor.j0])
    | succ kj4 =>
      have H := HA.out
      clear HA
      simp only [flagstoneref40_Factor.j0] at H
      by_cases c22 : x29_4 = true
      · subst c22
        have H1 : (some (1, 1)) = some (r1, r2) := by rw [if_pos rfl] at H; exact H
        clear H
        have H := H1
        clear H1
        simp only [Option.some.injEq, Prod.mk.injEq] at H
        obtain ⟨rfl, rfl⟩ := H
        go_wp2
        go_ret2
        exact ⟨by first | rfl | (simp [errW_none, errW_some] <;> rfl) | (simp [*, errW_none, errW_some] <;> rfl), by repeat (first | (with_reducible first | exact HB.out | apply below_alloc | apply pw_below_drewN | apply below_drew1 | refine below_set ?_ GE128.out) | exact HB.out)⟩
      · replace c22 := Bool.eq_false_iff.mpr c22
        subst c22
        have H1 : (if a3 = true then (some (wrap64 ((wrap64 ((wrap64 (8 * a0_2)) * 1000)) + (wrap64 (a2 * (wrap64 ((wrap64 (a0_0 * 1000)) - (wrap64 (a0_1 * a1))))))), wrap64 ((wrap64 (8 * a0_2)) * 1000))) else (some (wrap64 ((wrap64 ((wrap64 (8 * a0_2)) * 1000)) - (wrap64 (a2 * (wrap64 ((wrap64 (a0_0 * 1000)) - (wrap64 (a0_1 * a1))))))), wrap64 ((wrap64 (8 * a0_2)) * 1000)))) = some (r1, r2) := by rw [if_neg (show ¬ (false = true) by decide)] at H; exact H
        clear H
        have H := H1
        clear H1
        by_cases c23 : a3 = true
        · subst c23
          have H1 : (some (wrap64 ((wrap64 ((wrap64 (8 * a0_2)) * 1000)) + (wrap64 (a2 * (wrap64 ((wrap64 (a0_0 * 1000)) - (wrap64 (a0_1 * a1))))))), wrap64 ((wrap64 (8 * a0_2)) * 1000))) = some (r1, r2) := by rw [if_pos rfl] at H; exact H
          clear H
          have H := H1
          clear H1
          simp only [Option.some.injEq, Prod.mk.injEq] at H
          obtain ⟨rfl, rfl⟩ := H
          have hcz24_0 : wc.cell? ⟨gb128, 0, none⟩ = some (.int .i64 a0_0) := (blk_cell BK128.out 0).trans rfl
          have hcz24_1 : wc.cell? ⟨gb128, 1, none⟩ = some (.int .i64 a0_1) := (blk_cell BK128.out 1).trans rfl
          have hcz24_2 : wc.cell? ⟨gb128, 2, none⟩ = some (.int .i64 a0_2) := (blk_cell BK128.out 2).trans rfl
          have hfz24_0 := blk_frozen BK128.out 0
          have hfz24_1 := blk_frozen BK128.out 1
          have hfz24_2 := blk_frozen BK128.out 2
          go_wp2
          go_ret2
          exact ⟨by first | rfl | (simp [errW_none, errW_some] <;> rfl) | (simp [*, errW_none, errW_some] <;> rfl), by repeat (first | (with_reducible first | exact HB.out | apply below_alloc | apply pw_below_drewN | apply below_drew1 | refine below_set ?_ GE128.out) | exact HB.out)⟩
        · replace c23 := Bool.eq_false_iff.mpr c23
          subst c23
          have H1 : (some (wrap64 ((wrap64 ((wrap64 (8 * a0_2)) * 1000)) - (wrap64 (a2 * (wrap64 ((wrap64 (a0_0 * 1000)) - (wrap64 (a0_1 * a1))))))), wrap64 ((wrap64 (8 * a0_2)) * 1000))) = some (r1, r2) := by rw [if_neg (show ¬ (false = true) by decide)] at H; exact H
          clear H
          have H := H1
          clear H1
          simp only [Option.some.injEq, Prod.mk.injEq] at H
          obtain ⟨rfl, rfl⟩ := H
          have hcz25_0 : wc.cell? ⟨gb128, 0, none⟩ = some (.int .i64 a0_0) := (blk_cell BK128.out 0).trans rfl
          have hcz25_1 : wc.cell? ⟨gb128, 1, none⟩ = some (.int .i64 a0_1) := (blk_cell BK128.out 1).trans rfl
          have hcz25_2 : wc.cell? ⟨gb128, 2, none⟩ = some (.int .i64 a0_2) := (blk_cell BK128.out 2).trans rfl
          have hfz25_0 := blk_frozen BK128.out 0
          have hfz25_1 := blk_frozen BK128.out 1
          have hfz25_2 := blk_frozen BK128.out 2
          go_wp2
          go_ret2
          exact ⟨by first | rfl | (simp [errW_none, errW_some] <;> rfl) | (simp [*, errW_none, errW_some] <;> rfl), by repeat (first | (with_reducible first | exact HB.out | apply below_alloc | apply pw_below_drewN | apply below_drew1 | refine below_set ?_ GE128.out) | exact HB.out)⟩

/-- A state of type 66 at block g of W; what its slices lead to came in by w0. -/
def IsS66 (w0 W : World) (g : Nat) (f0 : List Int) (f1 : Int) : Prop := ∃ A0 c0, W.heap[g]? = some (.cells #[.slice A0 f0.length c0, .int .i64 f1] 66 (0, 0)) ∧ w0.heap.size ≤ g ∧ Kd.C (Kd.int .u8) w0 A0 f0.length f0
theorem IsS66.grown {w0 W : World} {g : Nat} {f0 : List Int} {f1 : Int} {W1 : World} {row : Option Nat} (h : IsS66 w0 W g f0 f1) (hw : W.grownBy W1 row) (hne : some g ≠ row) : IsS66 w0 W1 g f0 f1 := by
  obtain ⟨A0, c0, hb, hg, hr0⟩ := h
  exact ⟨A0, c0, blk_grown hb hw hne, hg, hr0⟩
theorem IsS66.own_neN {w0 W : World} {g : Nat} {f0 : List Int} {f1 : Int} {α : Type} {d : Kd α} {e : Nat} {base : Nat} {ok : Nat → Prop} {v : Value} {xs : List α} (h : IsS66 w0 W g f0 f1) (ho : Kd.N d e W base ok v xs) (ht : e ≠ 66) : some g ≠ v.ownBlock := by
  obtain ⟨A0, c0, hb, hg, hr0⟩ := h
  exact Kd.N_ne ho hb ht
theorem IsS66.fresh {w0 W : World} {g : Nat} {f0 : List Int} {f1 : Int} (h : IsS66 w0 W g f0 f1) : ∀ k, W.heap.size ≤ k → k ≠ g := by
  obtain ⟨A0, c0, hb, hg, hr0⟩ := h
  exact Kd.freshB hb
theorem IsS66.kept {w0 W : World} {g : Nat} {f0 : List Int} {f1 : Int} {W1 : World} {S : Nat → Prop} (h : IsS66 w0 W g f0 f1) (hk : Kept W W1 S) (hne : ¬ S g) : IsS66 w0 W1 g f0 f1 := by
  obtain ⟨A0, c0, hb, hg, hr0⟩ := h
  exact ⟨A0, c0, blk_kept hb hk hne, hg, hr0⟩
theorem IsS66.below {w0 W : World} {g : Nat} {f0 : List Int} {f1 : Int} {W1 : World} (h : IsS66 w0 W g f0 f1) (hw : Below W.heap.size W W1) : IsS66 w0 W1 g f0 f1 := h.grown (grown_of_below hw none) (by simp)
theorem IsS66.alloc {w0 W : World} {g : Nat} {f0 : List Int} {f1 : Int} (h : IsS66 w0 W g f0 f1) (o : Obj) : IsS66 w0 (W.alloc o) g f0 f1 := h.below (below_alloc (Below.refl _ _) o)
theorem IsS66.drewN {w0 W : World} {g : Nat} {f0 : List Int} {f1 : Int} (h : IsS66 w0 W g f0 f1) (m : Nat) : IsS66 w0 (W.drewN m) g f0 f1 := h
theorem IsS66.drew {w0 W : World} {g : Nat} {f0 : List Int} {f1 : Int} (h : IsS66 w0 W g f0 f1) : IsS66 w0 W.drew g f0 f1 := h
theorem IsS66.at_ {w0 W : World} {g : Nat} {f0 : List Int} {f1 : Int} {w' : World} {m : Nat} (hq : W.drewN m = w') (h : IsS66 w0 W g f0 f1) : IsS66 w0 w' g f0 f1 := by subst hq; exact IsS66.drewN h m
theorem IsS66.apart {w0 W : World} {g : Nat} {f0 : List Int} {f1 : Int} {α : Type} {d : Kd α} {e : Nat} {base : Nat} {ok : Nat → Prop} {v : Value} {xs : List α} (h : IsS66 w0 W g f0 f1) (ho : d.R e W base ok v xs) (ht : ∀ q, q ∈ e :: d.E → q ≠ 66) : d.R e W base (fun k => ok k ∧ k ≠ g) v xs := by
  obtain ⟨A0, c0, hb, hg, hr0⟩ := h
  exact Kd.R_types ho hb ht
theorem IsS66.own_ne {w0 W : World} {g : Nat} {f0 : List Int} {f1 : Int} {α : Type} {d : Kd α} {e : Nat} {base : Nat} {ok : Nat → Prop} {v : Value} {xs : List α} (h : IsS66 w0 W g f0 f1) (ho : d.R e W base ok v xs) (ht : e ≠ 66) : some g ≠ v.ownBlock := by
  obtain ⟨A0, c0, hb, hg, hr0⟩ := h
  exact Kd.R_ne ho hb ht
theorem IsS66.apartQ {w0 W : World} {g : Nat} {f0 : List Int} {f1 : Int} {α : Type} {d : Kd α} {e : Nat} {base : Nat} {ok : Nat → Prop} {v : Value} {xs : List α} (h : IsS66 w0 W g f0 f1) (ho : d.Q e W base ok v xs) (ht : ∀ q, q ∈ e :: d.E → q ≠ 66) : d.Q e W base (fun k => ok k ∧ k ≠ g) v xs := by
  obtain ⟨A0, c0, hb, hg, hr0⟩ := h
  exact Kd.Q_types ho hb ht
theorem IsS66.own_neQ {w0 W : World} {g : Nat} {f0 : List Int} {f1 : Int} {α : Type} {d : Kd α} {e : Nat} {base : Nat} {ok : Nat → Prop} {v : Value} {xs : List α} (h : IsS66 w0 W g f0 f1) (ho : d.Q e W base ok v xs) (ht : e ≠ 66) : some g ≠ v.ownBlock := by
  obtain ⟨A0, c0, hb, hg, hr0⟩ := h
  exact Kd.Q_ne ho hb ht
theorem IsS66.apartS {w0 W : World} {g : Nat} {f0 : List Int} {f1 : Int} {α : Type} {d : Kd α} {e : Nat} {base : Nat} {ok : Nat → Prop} {v : Value} {xs : List α} (h : IsS66 w0 W g f0 f1) (ho : d.S e W base ok v xs) (ht : ∀ q, q ∈ e :: d.E → q ≠ 66) : d.S e W base (fun k => ok k ∧ k ≠ g) v xs := by
  obtain ⟨A0, c0, hb, hg, hr0⟩ := h
  exact Kd.S_types ho hb ht
theorem IsS66.own_neS {w0 W : World} {g : Nat} {f0 : List Int} {f1 : Int} {α : Type} {d : Kd α} {e : Nat} {base : Nat} {ok : Nat → Prop} {v : Value} {xs : List α} (h : IsS66 w0 W g f0 f1) (ho : d.S e W base ok v xs) (ht : e ≠ 66) : some g ≠ v.ownBlock := by
  obtain ⟨A0, c0, hb, hg, hr0⟩ := h
  exact Kd.S_ne ho hb ht
theorem IsS66.lt {w0 W : World} {g : Nat} {f0 : List Int} {f1 : Int} (h : IsS66 w0 W g f0 f1) : g < W.heap.size := by
  obtain ⟨A0, c0, hb, hg, hr0⟩ := h
  exact blk_lt hb
theorem IsS66.ge {w0 W : World} {g : Nat} {f0 : List Int} {f1 : Int} (h : IsS66 w0 W g f0 f1) : w0.heap.size ≤ g := by
  obtain ⟨A0, c0, hb, hg, hr0⟩ := h
  exact hg
theorem IsS66.ne_blk {w0 W : World} {g : Nat} {f0 : List Int} {f1 : Int} {a : Nat} {cs : Array Value} {t : TypeId} {fr : Nat × Nat} (h : IsS66 w0 W g f0 f1) (hb2 : W.heap[a]? = some (.cells cs t fr)) (ht : t ≠ 66) : g ≠ a := by
  obtain ⟨A0, c0, hb, hg, hr0⟩ := h
  rintro rfl
  rw [hb] at hb2
  injection hb2 with hb2
  injection hb2 with _ ht2
  exact ht ht2.symm
theorem IsS66.far {w0 W : World} {g : Nat} {f0 : List Int} {f1 : Int} {p : Addr} (h : IsS66 w0 W g f0 f1) (hne : g ≠ p.block) (u : Value) : IsS66 w0 (W.setCell p u) g f0 f1 := by
  obtain ⟨A0, c0, hb, hg, hr0⟩ := h
  exact ⟨A0, c0, blk_far hb hne u, hg, hr0⟩
theorem cellS66_0 {W : World} {g : Nat} {A0 : Option Addr} {c0 : Nat} {f0 : List Int} {f1 : Int} (h : W.heap[g]? = some (.cells #[.slice A0 f0.length c0, .int .i64 f1] 66 (0, 0))) : W.cell? ⟨g, 0, none⟩ = some (.slice A0 f0.length c0) := (blk_cell h 0).trans rfl
theorem cellS66_1 {W : World} {g : Nat} {A0 : Option Addr} {c0 : Nat} {f0 : List Int} {f1 : Int} (h : W.heap[g]? = some (.cells #[.slice A0 f0.length c0, .int .i64 f1] 66 (0, 0))) : W.cell? ⟨g, 1, none⟩ = some (.int .i64 f1) := (blk_cell h 1).trans rfl
theorem IsS66.set_1 {w0 W : World} {g : Nat} {f0 : List Int} {f1 : Int} (h : IsS66 w0 W g f0 f1) (x : Int) : IsS66 w0 (W.setCell ⟨g, 1, none⟩ (.int .i64 x)) g f0 x := by
  obtain ⟨A0, c0, hb, hg, hr0⟩ := h
  exact ⟨A0, c0, by simpa using blk_set hb 1 (.int .i64 x), hg, hr0⟩
theorem IsS66.new (w0 W : World) (A0 : Option Addr) (c0 : Nat) (f0 : List Int) (f1 : Int) (hB : Below w0.heap.size w0 W) (hr0 : Kd.C (Kd.int .u8) w0 A0 f0.length f0) : IsS66 w0 (W.alloc (.cells #[.slice A0 f0.length c0, .int .i64 f1] 66)) W.heap.size f0 f1 := ⟨A0, c0, by simpa using heap_alloc_new W _, hB.size, hr0⟩

/-! ### flagstonedata_Source_More: function 30 -/
def flagstonedata_Source_More.f (s0_0 : List Int) (s0_1 : Int) : Option (Bool × Int) := some (decide (s0_1 < (s0_0.length : Int)), s0_1)
set_option maxHeartbeats 8000000 in
set_option maxRecDepth 100000 in
theorem flagstonedata_Source_More.calls (g : Nat) (s0_0 : List Int) (s0_1 : Int) (r1 : Bool) (r2 : Int) (w0 w : World) (hI : IsS66 w0 w g s0_0 s0_1) (hB : Below w0.heap.size w0 w) (h : flagstonedata_Source_More.f s0_0 s0_1 = some (r1, r2)) :
    Calls Try.prog 30 #[.pointer (some ⟨g, 0, none⟩)] w fun e w' => e = .returned (.bool r1) ∧ IsS66 w0 w' g s0_0 r2 ∧ Below w0.heap.size w0 w' ∧ KeepBut w w' g none := by
  have HI0 := Aside0.mk hI
  have HK := Aside0.mk (KeepBut.refl w g none)
  have HL := Aside0.mk hB.size
  clear hI
  have HW0 := Aside0.mk hB.size
  have HB := Aside0.mk hB
  clear hB
  have H : (some (decide (s0_1 < (s0_0.length : Int)), s0_1)) = some (r1, r2) := h
  clear h
  simp only [Option.some.injEq, Prod.mk.injEq] at H
  obtain ⟨rfl, rfl⟩ := H
  obtain ⟨ASz2_0, cSz2_0, HGz2, hgz2, HSz2_0⟩ := HI0.out
  have hcz2_0 := cellS66_0 HGz2
  have hcz2_1 := cellS66_1 HGz2
  have hfz2_1 := blk_frozen HGz2 1
  clear HGz2 hgz2
  go_enter Try.func30, Try.ntmps30
  go_wp2
  repeat (go_quiet (fail); try go_wp2)
  go_ret
  exact ⟨by first | rfl | (simp [errW_none, errW_some] <;> rfl) | (simp [*, errW_none, errW_some] <;> rfl), by repeat (first | (with_reducible first | exact HI0.out | apply IsS66.alloc | apply IsS66.drewN | apply IsS66.drew | apply IsS66.set_1) | exact HI0.out), by repeat (first | (with_reducible first | exact HB.out | apply below_alloc | apply pw_below_drewN | apply below_drew1 | refine below_set ?_ (IsS66.ge HI0.out)) | exact HB.out), by repeat (first | (with_reducible first | exact HK.out | apply KeepBut.set_ | apply keep_drewN | apply keep_drew | apply keep_alloc) | exact HK.out)⟩

/-! ### flagstonedata_Source_Next: function 31 -/
def flagstonedata_Source_Next.f (s0_0 : List Int) (s0_1 : Int) (a1 : Int) : Option (Int × Int) := if s0_1 ≥ (s0_0.length : Int) then (some (0, s0_1)) else (if 0 ≤ (wrap64 ((wrap64 (s0_1 + 1)) - 1)) then (if (wrap64 ((wrap64 (s0_1 + 1)) - 1)) < (s0_0.length : Int) then (if a1 = 0 then (none) else (some (Int.tmod (wrap64 (rd s0_0 (wrap64 ((wrap64 (s0_1 + 1)) - 1)))) a1, wrap64 (s0_1 + 1)))) else (none)) else (none))
set_option maxHeartbeats 8000000 in
set_option maxRecDepth 100000 in
theorem flagstonedata_Source_Next.calls (g : Nat) (s0_0 : List Int) (s0_1 : Int) (a1 : Int) (r1 : Int) (r2 : Int) (w0 w : World) (hI : IsS66 w0 w g s0_0 s0_1) (hB : Below w0.heap.size w0 w) (h : flagstonedata_Source_Next.f s0_0 s0_1 a1 = some (r1, r2)) :
    Calls Try.prog 31 #[.pointer (some ⟨g, 0, none⟩), .int .i64 a1] w fun e w' => e = .returned (.int .i64 r1) ∧ IsS66 w0 w' g s0_0 r2 ∧ Below w0.heap.size w0 w' ∧ KeepBut w w' g none := by
  have HI0 := Aside0.mk hI
  have HK := Aside0.mk (KeepBut.refl w g none)
  have HL := Aside0.mk hB.size
  clear hI
  have HW0 := Aside0.mk hB.size
  have HB := Aside0.mk hB
  clear hB
  have H : (if s0_1 ≥ (s0_0.length : Int) then (some (0, s0_1)) else (if 0 ≤ (wrap64 ((wrap64 (s0_1 + 1)) - 1)) then (if (wrap64 ((wrap64 (s0_1 + 1)) - 1)) < (s0_0.length : Int) then (if a1 = 0 then (none) else (some (Int.tmod (wrap64 (rd s0_0 (wrap64 ((wrap64 (s0_1 + 1)) - 1)))) a1, wrap64 (s0_1 + 1)))) else (none)) else (none))) = some (r1, r2) := h
  clear h
  by_cases c3 : s0_1 ≥ (s0_0.length : Int)
  · rw [if_pos c3] at H
    have c3b0 : decide ((s0_0.length : Int) ≤ s0_1) = true := decide_eq_true c3
    clear c3
    simp only [Option.some.injEq, Prod.mk.injEq] at H
    obtain ⟨rfl, rfl⟩ := H
    obtain ⟨ASz4_0, cSz4_0, HGz4, hgz4, HSz4_0⟩ := HI0.out
    have hcz4_0 := cellS66_0 HGz4
    have hcz4_1 := cellS66_1 HGz4
    have hfz4_1 := blk_frozen HGz4 1
    clear HGz4 hgz4
    go_enter Try.func31, Try.ntmps31
    go_wp2
    repeat (go_quiet (fail); try go_wp2)
    go_ret
    exact ⟨by first | rfl | (simp [errW_none, errW_some] <;> rfl) | (simp [*, errW_none, errW_some] <;> rfl), by repeat (first | (with_reducible first | exact HI0.out | apply IsS66.alloc | apply IsS66.drewN | apply IsS66.drew | apply IsS66.set_1) | exact HI0.out), by repeat (first | (with_reducible first | exact HB.out | apply below_alloc | apply pw_below_drewN | apply below_drew1 | refine below_set ?_ (IsS66.ge HI0.out)) | exact HB.out), by repeat (first | (with_reducible first | exact HK.out | apply KeepBut.set_ | apply keep_drewN | apply keep_drew | apply keep_alloc) | exact HK.out)⟩
  · rw [if_neg c3] at H
    have c3b0 : decide ((s0_0.length : Int) ≤ s0_1) = false := decide_eq_false c3
    clear c3
    obtain ⟨ji5, hji5⟩ : ∃ j_ : Int, (wrap64 ((wrap64 (s0_1 + 1)) - 1)) = j_ := ⟨_, rfl⟩
    replace H : (if 0 ≤ (ji5) then (if (ji5) < (s0_0.length : Int) then (if a1 = 0 then (none) else (some (Int.tmod (wrap64 (rd s0_0 (ji5))) a1, wrap64 (s0_1 + 1)))) else (none)) else (none)) = some (r1, r2) := by first | (rw [hji5] at H; exact H) | (simp only [hji5] at H ⊢; exact H)
    have hji5w : (IntKind.i64.wrap ((wrap64 (s0_1 + 1)) - 1)) = ji5 := (i64_w _).trans hji5
    by_cases c6 : 0 ≤ (ji5)
    · rw [if_pos c6] at H
      have c6b0 : decide (0 ≤ (ji5)) = true := decide_eq_true c6
      clear c6
      by_cases c7 : (ji5) < (s0_0.length : Int)
      · rw [if_pos c7] at H
        have c7b0 : decide ((ji5) < (s0_0.length : Int)) = true := decide_eq_true c7
        clear c7
        by_cases c8 : a1 = 0
        · rw [if_pos c8] at H
          exact absurd H (by simp)
        · rw [if_neg c8] at H
          have c8b0 : (a1 == 0) = false := beq_eq_false_iff_ne.mpr c8
          have c8b1 : (a1 != 0) = true := bne_iff_ne.mpr c8
          simp only [Option.some.injEq, Prod.mk.injEq] at H
          obtain ⟨rfl, rfl⟩ := H
          obtain ⟨ASz9_0, cSz9_0, HGz9, hgz9, HSz9_0⟩ := HI0.out
          have hcz9_0 := cellS66_0 HGz9
          have hcz9_1 := cellS66_1 HGz9
          have hfz9_1 := blk_frozen HGz9 1
          clear HGz9 hgz9
          have p130 : 0 ≤ ((ji5) : Int) := of_decide_eq_true (by first | (with_reducible assumption) | assumption)
          have q130 : (ji5) < (s0_0.length : Int) := of_decide_eq_true (by first | (with_reducible assumption) | assumption)
          obtain ⟨ad130, e130, hx130_0⟩ := Kd.at_int HSz9_0 (ji5) p130 q130
          cases e130
          have hn130_0 : ad130.block ≠ g := Nat.ne_of_lt (Nat.lt_of_lt_of_le (by have := World.block_lt_of_cell? _ _ hx130_0; first | rwa [add_block] at this | exact this) (IsS66.ge HI0.out))
          replace hx130_0 := pw_cell_below HB.out hx130_0
          replace hx130_0 := (cell_far (p := ⟨g, 1, none⟩) (by first | (rw [add_block]; exact hn130_0) | (show (Addr.add _ _).block ≠ _; rw [add_block]; exact hn130_0) | exact hn130_0) (.int .i64 (wrap64 (s0_1 + 1)))).trans hx130_0
          (try have hy130_0 := fun (n_ : Nat) => (show (((w.drewN n_).setCell ⟨g, 1, none⟩ (.int .i64 (wrap64 (s0_1 + 1))))).cell? _ = some _ from hx130_0))
          clear hn130_0
          replace p130 := eq_true p130
          replace q130 := eq_true q130
          go_enter Try.func31, Try.ntmps31
          go_wp2
          repeat (go_quiet (fail); try go_wp2)
          go_ret
          exact ⟨by first | rfl | (simp [errW_none, errW_some] <;> rfl) | (simp only [← hji5]; first | rfl | (simp [errW_none, errW_some] <;> rfl)) | (simp [*, errW_none, errW_some] <;> rfl), by repeat (first | (with_reducible first | exact HI0.out | apply IsS66.alloc | apply IsS66.drewN | apply IsS66.drew | apply IsS66.set_1) | exact HI0.out), by repeat (first | (with_reducible first | exact HB.out | apply below_alloc | apply pw_below_drewN | apply below_drew1 | refine below_set ?_ (IsS66.ge HI0.out)) | exact HB.out), by repeat (first | (with_reducible first | exact HK.out | apply KeepBut.set_ | apply keep_drewN | apply keep_drew | apply keep_alloc) | exact HK.out)⟩
      · rw [if_neg c7] at H
        exact absurd H (by simp)
    · rw [if_neg c6] at H
      exact absurd H (by simp)

/-! ### flagstonedata_Scores: function 15 -/
mutual
def flagstonedata_Scores.l0 : Nat → List (S28) → List Int → Int → Option ((List (S28)))
  | 0, _, _, _ => none
  | k + 1, x4, x132000, x132001 => (flagstonedata_Source_More.f x132000 x132001).bind fun bt132 => (if bt132.1 = true then (flagstonedata_Scores.j1 k x4 (decide ((x4.length : Int) < 30)) x132000 bt132.2) else (flagstonedata_Scores.j1 k x4 false x132000 bt132.2))
def flagstonedata_Scores.j1 : Nat → List (S28) → Bool → List Int → Int → Option ((List (S28)))
  | 0, _, _, _, _ => none
  | k + 1, x4, x16, x132000, x132001 => if x16 = true then ((flagstonedata_Source_Next.f x132000 x132001 20).bind fun bt134 => ((flagstonedata_Source_Next.f x132000 bt134.2 100).bind fun bt136 => ((flagstonedata_Source_Next.f x132000 bt136.2 256).bind fun bt138 => (if (wrap64 ((wrap64 (2 * (wrap64 (1 + bt136.1)))) + 1)) = 0 then (none) else (if x4.length < 5864062014805 then (flagstonedata_Scores.l0 k (x4 ++ [(⟨wrap64 ((Int.tmod bt138.1 (wrap64 ((wrap64 (2 * (wrap64 (1 + bt136.1)))) + 1))) - (wrap64 (1 + bt136.1))), wrap64 (1 + bt134.1), wrap64 ((wrap64 (1 + bt134.1)) + (wrap64 (1 + bt136.1)))⟩ : S28)]) x132000 bt138.2) else (none)))))) else (some x4)
end
def flagstonedata_Scores.f (k : Nat) (l0 : List Int) : Option ((List (S28))) := flagstonedata_Scores.l0 k ([] : List (S28)) l0 0
theorem flagstonedata_Scores.mono_l : ∀ k, (∀ y0 y1 y2, LeO (flagstonedata_Scores.l0 k y0 y1 y2) (flagstonedata_Scores.l0 (k + 1) y0 y1 y2)) ∧ (∀ y0 y1 y2 y3, LeO (flagstonedata_Scores.j1 k y0 y1 y2 y3) (flagstonedata_Scores.j1 (k + 1) y0 y1 y2 y3))
  | 0 => ⟨fun _ _ _ r h => by simp [flagstonedata_Scores.l0] at h, fun _ _ _ _ r h => by simp [flagstonedata_Scores.j1] at h⟩
  | k + 1 => by
    obtain ⟨ih0, ih1⟩ := flagstonedata_Scores.mono_l k
    refine ⟨?_, ?_⟩
    · intro y0 y1 y2
      unfold flagstonedata_Scores.l0
      repeat' first
      | (with_reducible exact ih0 _ _ _)
      | (with_reducible exact ih1 _ _ _ _)
      | (with_reducible exact LeO.refl _)
      | (with_reducible exact LeO.none _)
      | (with_reducible refine LeO.ite ?_ ?_)
      | (with_reducible refine LeO.bind ?_ (fun _ => ?_))
      | exact ih0 _ _ _
      | exact ih1 _ _ _ _
      | exact LeO.none _
      | refine LeO.ite ?_ ?_
      | refine LeO.bind ?_ (fun _ => ?_)
    · intro y0 y1 y2 y3
      unfold flagstonedata_Scores.j1
      repeat' first
      | (with_reducible exact ih0 _ _ _)
      | (with_reducible exact ih1 _ _ _ _)
      | (with_reducible exact LeO.refl _)
      | (with_reducible exact LeO.none _)
      | (with_reducible refine LeO.ite ?_ ?_)
      | (with_reducible refine LeO.bind ?_ (fun _ => ?_))
      | exact ih0 _ _ _
      | exact ih1 _ _ _ _
      | exact LeO.none _
      | refine LeO.ite ?_ ?_
      | refine LeO.bind ?_ (fun _ => ?_)
theorem flagstonedata_Scores.mono : ∀ a0 k, LeO (flagstonedata_Scores.f k a0) (flagstonedata_Scores.f (k + 1) a0) := by
  intro a0 k
  obtain ⟨ih0, ih1⟩ := flagstonedata_Scores.mono_l k
  unfold flagstonedata_Scores.f
  repeat' first
      | (with_reducible exact ih0 _ _ _)
      | (with_reducible exact ih1 _ _ _ _)
      | (with_reducible exact LeO.refl _)
      | (with_reducible exact LeO.none _)
      | (with_reducible refine LeO.ite ?_ ?_)
      | (with_reducible refine LeO.bind ?_ (fun _ => ?_))
      | exact ih0 _ _ _
      | exact ih1 _ _ _ _
      | exact LeO.none _
      | refine LeO.ite ?_ ?_
      | refine LeO.bind ?_ (fun _ => ?_)
set_option maxHeartbeats 8000000 in
set_option maxRecDepth 100000 in
theorem flagstonedata_Scores.calls (k : Nat) (A0 : Option Addr) (c0 : Nat) (l0 : List Int) (r : List (S28)) (w : World) (hr0 : Kd.C (Kd.int .u8) w A0 l0.length l0) (hc0 : l0.length ≤ c0) (h : flagstonedata_Scores.f k l0 = some r) :
    Calls Try.prog 15 #[.slice A0 l0.length c0] w fun e w' => ∃ v0_ : Value, e = .returned (v0_) ∧ Kd.R k28 28 w' w.heap.size (fun _ => True) v0_ r ∧ Below w.heap.size w w' := by
  have hu66 := Try.underlying66
  have hu28 := Try.underlying28
  have HR0 := Aside0.mk hr0
  have HC0 := Aside0.mk hc0
  clear hr0 hc0
  have HB := Aside0.mk (Below.refl w.heap.size w)
  have H : (flagstonedata_Scores.l0 k ([] : List (S28)) l0 0) = some r := h
  clear h
  have H' := Aside0.mk H
  clear H
  go_enter Try.func15, Try.ntmps15
  go_wp2_with (first | ((with_reducible refine gate_dst (N := 9) rfl ?_); (try (refine gate_guard (by rfl) ?_; dsimp only)); refine box_event ?hg (N := 9) ?hd (cs := #[.slice A0 l0.length c0, .int .i64 0]) (t := 66) ?hr ?_; (case hd => rfl); (case hg => rfl); (case hr => first | (go_simp; done) | (go_simp; rfl)); intro gb131 hg w2 hbox hb; have n0_ := Aside0.mk (below_step (by repeat (first | (with_reducible first | exact HB.out | apply below_alloc | apply pw_below_drewN | apply below_drew1) | exact HB.out)) hb); have n1_ := Aside0.mk ((by rw [hg]; exact (below_size (by repeat (first | (with_reducible first | exact HB.out | apply below_alloc | apply pw_below_drewN | apply below_drew1) | exact HB.out))) : w.heap.size ≤ gb131)); have n2_ := Aside0.mk ((by rw [hg]; exact (below_size (by repeat (first | (with_reducible first | exact HB.out | apply below_alloc | apply pw_below_drewN | apply below_drew1) | exact HB.out))) : w.heap.size ≤ gb131)); have n3_ := Aside0.mk ((⟨_, _, hbox, (by rw [hg]; exact (below_size (by repeat (first | (with_reducible first | exact HB.out | apply below_alloc | apply pw_below_drewN | apply below_drew1) | exact HB.out)))), HR0.out⟩ : IsS66 w w2 gb131 l0 0)); clear HB; have HB := n0_; have GW131 := n1_; have GE131 := n2_; have HI131 := n3_; clear n0_ n1_ n2_ n3_; clear hb hbox hg))
  go_loopg [4] k (fun kq v4 w' => ∃ (x4_1 : List (S28)) (x132001_1 : Int), Aside0 (flagstonedata_Scores.l0 kq x4_1 l0 x132001_1 = some r) ∧ Aside0 (kq ≤ k) ∧ Aside0 (Kd.R k28 28 w' w.heap.size (fun _ => True) v4 x4_1) ∧ Aside0 (IsS66 w w' gb131 l0 x132001_1) ∧ Aside0 (Below w.heap.size w w'))
  case atStart => exact ⟨(([] : List (S28))), (0), H', ⟨Nat.le_refl _⟩, ⟨by first | exact Kd.R_nil _ _ _ _ _ | exact Kd.N_nil _ _ _ _ _ | exact Kd.V_nil _ _ _ _ _ | exact Kd.Q_nil _ _ _ _ _ | exact Kd.S_nil _ _ _ _ _⟩, ⟨by repeat (first | (with_reducible first | exact HI131.out | apply IsS66.alloc | apply IsS66.drewN | apply IsS66.drew | apply IsS66.set_1) | exact HI131.out)⟩, ⟨by repeat (first | (with_reducible first | exact HB.out | apply below_alloc | apply pw_below_drewN | apply below_drew1 | refine below_set ?_ (IsS66.ge HI131.out)) | exact HB.out)⟩⟩
  case round =>
    clear H'
    try clear c1
    try clear p2
    obtain ⟨x4_1, x132001_1, HA, HK1, HO_4, HI131, HB⟩ := hrel
    cases gk with
    | zero => exact absurd HA.out (by simp [flagstonedata_Scores.l0])
    | succ k1 =>
      have H := HA.out
      clear HA
      simp only [flagstonedata_Scores.l0] at H
      have HC3 := Aside0.mk H
      clear H
      go_upto_region 3 with (fail)
      go_cut [16] (fun v16 wc => ∃ (kq : Nat) (x16_2 : Bool) (x132001_2 : Int), v16 = .bool x16_2 ∧ Aside0 (flagstonedata_Scores.j1 kq x4_1 x16_2 l0 x132001_2 = some r) ∧ Aside0 (kq ≤ k1) ∧ Aside0 (Kd.R k28 28 wc w.heap.size (fun _ => True) u4 x4_1) ∧ Aside0 (IsS66 w wc gb131 l0 x132001_2) ∧ Aside0 (Below w.heap.size w wc))
      case first =>
        have H := HC3.out
        clear HC3
        replace H := Option.bind_eq_some_iff.mp H
        obtain ⟨⟨t132, t133⟩, A40, H⟩ := H
        replace H : (if t132 = true then (flagstonedata_Scores.j1 k1 x4_1 (decide ((x4_1.length : Int) < 30)) l0 t133) else (flagstonedata_Scores.j1 k1 x4_1 false l0 t133)) = some r := H
        have A4 := Aside0.mk A40
        clear A40
        by_cases c5 : t132 = true
        · subst c5
          have H1 : (flagstonedata_Scores.j1 k1 x4_1 (decide ((x4_1.length : Int) < 30)) l0 t133) = some r := by rw [if_pos rfl] at H; exact H
          clear H
          have H := H1
          clear H1
          have H' := Aside0.mk H
          clear H
          go_wp2_with (first | ((with_reducible refine gate_callee (f := 30) rfl ?_); refine goesL_ (some 11) rfl rfl Try.func30 (by kernel_rfl) rfl #[.pointer (some ⟨gb131, 0, none⟩)] rfl (by (try simp only [List.map_toArray, List.map_cons, List.map_nil]); first | done | rfl | (simp only [List.length_drop, List.length_take]; rfl)) ?_; (with_reducible refine (flagstonedata_Source_More.calls gb131 l0 x132001_1 true t133 w _ ?side1 ?side2 A4.out).mono ?_); (case side1 => repeat (first | (with_reducible first | exact HI131.out | apply IsS66.alloc | apply IsS66.drewN | apply IsS66.drew | apply IsS66.set_1) | exact HI131.out)); (case side2 => repeat (first | (with_reducible first | exact HB.out | apply below_alloc | apply pw_below_drewN | apply below_drew1 | refine below_set ?_ (IsS66.ge HI131.out)) | exact HB.out)); rintro e w6 ⟨rfl, hi, hb, hk⟩; refine ⟨_, rfl, ?_⟩; have n0_ := Aside0.mk (Kd.R_mono (Kd.R_keep (IsS66.apart (show IsS66 w _ gb131 l0 x132001_1 from by repeat (first | (with_reducible first | exact HI131.out | apply IsS66.alloc | apply IsS66.drewN | apply IsS66.drew | apply IsS66.set_1) | exact HI131.out)) (by (with_reducible repeat (first | apply Kd.R_alloc | apply Kd.R_drewN | apply Kd.R_drew)); exact HO_4.out) (by decide)) hk (fun _ h => h.2)) (fun _ h => h.1)); have n1_ := Aside0.mk (hb); have n2_ := Aside0.mk (hi); clear HO_4; clear HB; clear HI131; have HO_4 := n0_; have HB := n1_; have HI131 := n2_; clear n0_ n1_ n2_; (try clear hb); (try clear hb2); (try clear hk); (try clear hi); obtain ⟨Ao7, co7, eo7⟩ := Kd.R_slice HO_4.out; subst eo7))
          go_meet
          case rel => exact ⟨_, (decide ((x4_1.length : Int) < 30)), (t133), (by first | rfl | (simp; done) | (simp [*]; done)), H', ⟨by have := HK1.out; first | omega | exact Nat.le_refl _⟩, ⟨by (with_reducible repeat (first | apply Kd.R_alloc | apply Kd.R_drewN | apply Kd.R_drew)); exact HO_4.out⟩, ⟨by repeat (first | (with_reducible first | exact HI131.out | apply IsS66.alloc | apply IsS66.drewN | apply IsS66.drew | apply IsS66.set_1) | exact HI131.out)⟩, ⟨by repeat (first | (with_reducible first | exact HB.out | apply below_alloc | apply pw_below_drewN | apply below_drew1 | refine below_set ?_ (IsS66.ge HI131.out)) | exact HB.out)⟩⟩
        · replace c5 := Bool.eq_false_iff.mpr c5
          subst c5
          have H1 : (flagstonedata_Scores.j1 k1 x4_1 false l0 t133) = some r := by rw [if_neg (show ¬ (false = true) by decide)] at H; exact H
          clear H
          have H := H1
          clear H1
          have H' := Aside0.mk H
          clear H
          go_wp2_with (first | ((with_reducible refine gate_callee (f := 30) rfl ?_); refine goesL_ (some 11) rfl rfl Try.func30 (by kernel_rfl) rfl #[.pointer (some ⟨gb131, 0, none⟩)] rfl (by (try simp only [List.map_toArray, List.map_cons, List.map_nil]); first | done | rfl | (simp only [List.length_drop, List.length_take]; rfl)) ?_; (with_reducible refine (flagstonedata_Source_More.calls gb131 l0 x132001_1 false t133 w _ ?side1 ?side2 A4.out).mono ?_); (case side1 => repeat (first | (with_reducible first | exact HI131.out | apply IsS66.alloc | apply IsS66.drewN | apply IsS66.drew | apply IsS66.set_1) | exact HI131.out)); (case side2 => repeat (first | (with_reducible first | exact HB.out | apply below_alloc | apply pw_below_drewN | apply below_drew1 | refine below_set ?_ (IsS66.ge HI131.out)) | exact HB.out)); rintro e w8 ⟨rfl, hi, hb, hk⟩; refine ⟨_, rfl, ?_⟩; have n0_ := Aside0.mk (Kd.R_mono (Kd.R_keep (IsS66.apart (show IsS66 w _ gb131 l0 x132001_1 from by repeat (first | (with_reducible first | exact HI131.out | apply IsS66.alloc | apply IsS66.drewN | apply IsS66.drew | apply IsS66.set_1) | exact HI131.out)) (by (with_reducible repeat (first | apply Kd.R_alloc | apply Kd.R_drewN | apply Kd.R_drew)); exact HO_4.out) (by decide)) hk (fun _ h => h.2)) (fun _ h => h.1)); have n1_ := Aside0.mk (hb); have n2_ := Aside0.mk (hi); clear HO_4; clear HB; clear HI131; have HO_4 := n0_; have HB := n1_; have HI131 := n2_; clear n0_ n1_ n2_; (try clear hb); (try clear hb2); (try clear hk); (try clear hi)))
          go_meet
          case rel => exact ⟨_, (false), (t133), (by first | rfl | (simp; done) | (simp [*]; done)), H', ⟨by have := HK1.out; first | omega | exact Nat.le_refl _⟩, ⟨by (with_reducible repeat (first | apply Kd.R_alloc | apply Kd.R_drewN | apply Kd.R_drew)); exact HO_4.out⟩, ⟨by repeat (first | (with_reducible first | exact HI131.out | apply IsS66.alloc | apply IsS66.drewN | apply IsS66.drew | apply IsS66.set_1) | exact HI131.out)⟩, ⟨by repeat (first | (with_reducible first | exact HB.out | apply below_alloc | apply pw_below_drewN | apply below_drew1 | refine below_set ?_ (IsS66.ge HI131.out)) | exact HB.out)⟩⟩
      case rest =>
        clear HC3
        try clear c1
        try clear p2
        try clear c3
        try clear c5
        try clear p2
        obtain ⟨kq, x16_2, x132001_2, rfl, HA, HJ2, HO_4, HI131, HB⟩ := hcut
        cases kq with
        | zero => exact absurd HA.out (by simp [flagstonedata_Scores.j1])
        | succ kj2 =>
          have H := HA.out
          clear HA
          simp only [flagstonedata_Scores.j1] at H
          by_cases c9 : x16_2 = true
          · subst c9
            have H1 : ((flagstonedata_Source_Next.f l0 x132001_2 20).bind fun bt134 => ((flagstonedata_Source_Next.f l0 bt134.2 100).bind fun bt136 => ((flagstonedata_Source_Next.f l0 bt136.2 256).bind fun bt138 => (if (wrap64 ((wrap64 (2 * (wrap64 (1 + bt136.1)))) + 1)) = 0 then (none) else (if x4_1.length < 5864062014805 then (flagstonedata_Scores.l0 kj2 (x4_1 ++ [(⟨wrap64 ((Int.tmod bt138.1 (wrap64 ((wrap64 (2 * (wrap64 (1 + bt136.1)))) + 1))) - (wrap64 (1 + bt136.1))), wrap64 (1 + bt134.1), wrap64 ((wrap64 (1 + bt134.1)) + (wrap64 (1 + bt136.1)))⟩ : S28)]) l0 bt138.2) else (none)))))) = some r := by rw [if_pos rfl] at H; exact H
            clear H
            have H := H1
            clear H1
            replace H := Option.bind_eq_some_iff.mp H
            obtain ⟨⟨t134, t135⟩, A100, H⟩ := H
            replace H : ((flagstonedata_Source_Next.f l0 t135 100).bind fun bt136 => ((flagstonedata_Source_Next.f l0 bt136.2 256).bind fun bt138 => (if (wrap64 ((wrap64 (2 * (wrap64 (1 + bt136.1)))) + 1)) = 0 then (none) else (if x4_1.length < 5864062014805 then (flagstonedata_Scores.l0 kj2 (x4_1 ++ [(⟨wrap64 ((Int.tmod bt138.1 (wrap64 ((wrap64 (2 * (wrap64 (1 + bt136.1)))) + 1))) - (wrap64 (1 + bt136.1))), wrap64 (1 + t134), wrap64 ((wrap64 (1 + t134)) + (wrap64 (1 + bt136.1)))⟩ : S28)]) l0 bt138.2) else (none))))) = some r := H
            have A10 := Aside0.mk A100
            clear A100
            replace H := Option.bind_eq_some_iff.mp H
            obtain ⟨⟨t136, t137⟩, A110, H⟩ := H
            replace H : ((flagstonedata_Source_Next.f l0 t137 256).bind fun bt138 => (if (wrap64 ((wrap64 (2 * (wrap64 (1 + t136)))) + 1)) = 0 then (none) else (if x4_1.length < 5864062014805 then (flagstonedata_Scores.l0 kj2 (x4_1 ++ [(⟨wrap64 ((Int.tmod bt138.1 (wrap64 ((wrap64 (2 * (wrap64 (1 + t136)))) + 1))) - (wrap64 (1 + t136))), wrap64 (1 + t134), wrap64 ((wrap64 (1 + t134)) + (wrap64 (1 + t136)))⟩ : S28)]) l0 bt138.2) else (none)))) = some r := H
            have A11 := Aside0.mk A110
            clear A110
            replace H := Option.bind_eq_some_iff.mp H
            obtain ⟨⟨t138, t139⟩, A120, H⟩ := H
            replace H : (if (wrap64 ((wrap64 (2 * (wrap64 (1 + t136)))) + 1)) = 0 then (none) else (if x4_1.length < 5864062014805 then (flagstonedata_Scores.l0 kj2 (x4_1 ++ [(⟨wrap64 ((Int.tmod t138 (wrap64 ((wrap64 (2 * (wrap64 (1 + t136)))) + 1))) - (wrap64 (1 + t136))), wrap64 (1 + t134), wrap64 ((wrap64 (1 + t134)) + (wrap64 (1 + t136)))⟩ : S28)]) l0 t139) else (none))) = some r := H
            have A12 := Aside0.mk A120
            clear A120
            by_cases c13 : (wrap64 ((wrap64 (2 * (wrap64 (1 + t136)))) + 1)) = 0
            · rw [if_pos c13] at H
              exact absurd H (by simp)
            · rw [if_neg c13] at H
              have c13b0 : ((wrap64 ((wrap64 (2 * (wrap64 (1 + t136)))) + 1)) == 0) = false := beq_eq_false_iff_ne.mpr c13
              have c13b1 : ((wrap64 ((wrap64 (2 * (wrap64 (1 + t136)))) + 1)) != 0) = true := bne_iff_ne.mpr c13
              by_cases c14 : x4_1.length < 5864062014805
              · rw [if_pos c14] at H
                have LMc14 := Aside0.mk c14
                clear c14
                obtain ⟨y140, hy140⟩ : ∃ y_ : List (S28), y_ = (x4_1 ++ [(⟨wrap64 ((Int.tmod t138 (wrap64 ((wrap64 (2 * (wrap64 (1 + t136)))) + 1))) - (wrap64 (1 + t136))), wrap64 (1 + t134), wrap64 ((wrap64 (1 + t134)) + (wrap64 (1 + t136)))⟩ : S28)]) := ⟨_, rfl⟩
                replace H : (flagstonedata_Scores.l0 kj2 y140 l0 t139) = some r := by first | (rw [hy140]; with_reducible exact H) | (have H2_ := (Option.bind_some _ _).symm.trans H; rw [hy140]; with_reducible exact H2_) | (have H2_ := (Option.bind_some _ _).symm.trans H; with_reducible exact H2_) | with_reducible exact H | (rw [hy140]; exact H) | exact H
                have Ny140 := Aside0.mk hy140
                clear hy140
                have H' := Aside0.mk H
                clear H
                go_wp2_with (first | ((with_reducible refine gate_callee (f := 31) rfl ?_); refine goesL_ (some 18) rfl rfl Try.func31 (by kernel_rfl) rfl #[.pointer (some ⟨gb131, 0, none⟩), .int .i64 20] rfl (by (try simp only [List.map_toArray, List.map_cons, List.map_nil]); first | done | rfl | (simp only [List.length_drop, List.length_take]; rfl)) ?_; (with_reducible refine (flagstonedata_Source_Next.calls gb131 l0 x132001_2 20 t134 t135 w _ ?side1 ?side2 A10.out).mono ?_); (case side1 => repeat (first | (with_reducible first | exact HI131.out | apply IsS66.alloc | apply IsS66.drewN | apply IsS66.drew | apply IsS66.set_1) | exact HI131.out)); (case side2 => repeat (first | (with_reducible first | exact HB.out | apply below_alloc | apply pw_below_drewN | apply below_drew1 | refine below_set ?_ (IsS66.ge HI131.out)) | exact HB.out)); rintro e w15 ⟨rfl, hi, hb, hk⟩; refine ⟨_, rfl, ?_⟩; have n0_ := Aside0.mk (Kd.R_mono (Kd.R_keep (IsS66.apart (show IsS66 w _ gb131 l0 x132001_2 from by repeat (first | (with_reducible first | exact HI131.out | apply IsS66.alloc | apply IsS66.drewN | apply IsS66.drew | apply IsS66.set_1) | exact HI131.out)) (by (with_reducible repeat (first | apply Kd.R_alloc | apply Kd.R_drewN | apply Kd.R_drew)); exact HO_4.out) (by decide)) hk (fun _ h => h.2)) (fun _ h => h.1)); have n1_ := Aside0.mk (hb); have n2_ := Aside0.mk (hi); clear HO_4; clear HB; clear HI131; have HO_4 := n0_; have HB := n1_; have HI131 := n2_; clear n0_ n1_ n2_; (try clear hb); (try clear hb2); (try clear hk); (try clear hi)) | ((with_reducible refine gate_callee (f := 31) rfl ?_); refine goesL_ (some 21) rfl rfl Try.func31 (by kernel_rfl) rfl #[.pointer (some ⟨gb131, 0, none⟩), .int .i64 100] rfl (by (try simp only [List.map_toArray, List.map_cons, List.map_nil]); first | done | rfl | (simp only [List.length_drop, List.length_take]; rfl)) ?_; (with_reducible refine (flagstonedata_Source_Next.calls gb131 l0 t135 100 t136 t137 w _ ?side1 ?side2 A11.out).mono ?_); (case side1 => repeat (first | (with_reducible first | exact HI131.out | apply IsS66.alloc | apply IsS66.drewN | apply IsS66.drew | apply IsS66.set_1) | exact HI131.out)); (case side2 => repeat (first | (with_reducible first | exact HB.out | apply below_alloc | apply pw_below_drewN | apply below_drew1 | refine below_set ?_ (IsS66.ge HI131.out)) | exact HB.out)); rintro e w16 ⟨rfl, hi, hb, hk⟩; refine ⟨_, rfl, ?_⟩; have n0_ := Aside0.mk (Kd.R_mono (Kd.R_keep (IsS66.apart (show IsS66 w _ gb131 l0 t135 from by repeat (first | (with_reducible first | exact HI131.out | apply IsS66.alloc | apply IsS66.drewN | apply IsS66.drew | apply IsS66.set_1) | exact HI131.out)) (by (with_reducible repeat (first | apply Kd.R_alloc | apply Kd.R_drewN | apply Kd.R_drew)); exact HO_4.out) (by decide)) hk (fun _ h => h.2)) (fun _ h => h.1)); have n1_ := Aside0.mk (hb); have n2_ := Aside0.mk (hi); clear HO_4; clear HB; clear HI131; have HO_4 := n0_; have HB := n1_; have HI131 := n2_; clear n0_ n1_ n2_; (try clear hb); (try clear hb2); (try clear hk); (try clear hi)) | ((with_reducible refine gate_callee (f := 31) rfl ?_); refine goesL_ (some 25) rfl rfl Try.func31 (by kernel_rfl) rfl #[.pointer (some ⟨gb131, 0, none⟩), .int .i64 256] rfl (by (try simp only [List.map_toArray, List.map_cons, List.map_nil]); first | done | rfl | (simp only [List.length_drop, List.length_take]; rfl)) ?_; (with_reducible refine (flagstonedata_Source_Next.calls gb131 l0 t137 256 t138 t139 w _ ?side1 ?side2 A12.out).mono ?_); (case side1 => repeat (first | (with_reducible first | exact HI131.out | apply IsS66.alloc | apply IsS66.drewN | apply IsS66.drew | apply IsS66.set_1) | exact HI131.out)); (case side2 => repeat (first | (with_reducible first | exact HB.out | apply below_alloc | apply pw_below_drewN | apply below_drew1 | refine below_set ?_ (IsS66.ge HI131.out)) | exact HB.out)); rintro e w17 ⟨rfl, hi, hb, hk⟩; refine ⟨_, rfl, ?_⟩; have n0_ := Aside0.mk (Kd.R_mono (Kd.R_keep (IsS66.apart (show IsS66 w _ gb131 l0 t137 from by repeat (first | (with_reducible first | exact HI131.out | apply IsS66.alloc | apply IsS66.drewN | apply IsS66.drew | apply IsS66.set_1) | exact HI131.out)) (by (with_reducible repeat (first | apply Kd.R_alloc | apply Kd.R_drewN | apply Kd.R_drew)); exact HO_4.out) (by decide)) hk (fun _ h => h.2)) (fun _ h => h.1)); have n1_ := Aside0.mk (hb); have n2_ := Aside0.mk (hi); clear HO_4; clear HB; clear HI131; have HO_4 := n0_; have HB := n1_; have HI131 := n2_; clear n0_ n1_ n2_; (try clear hb); (try clear hb2); (try clear hk); (try clear hi)) | ((with_reducible refine gate_builtin (b := .append) (xs := #[.tmp 23, .tmp 37]) rfl ?_); (try (refine gate_guard (by rfl) ?_; dsimp only)); at_builtin; refine Kd.R_append k28 (w0 := w) w.heap.size rfl (.tmp 23) (.tmp 37) 33 28 (.agg #[(.int .i64 0), (.int .i64 0), (.int .i64 0)]) 24 rfl Try.underlying33 info28 rfl (by decide) (by omega) u4 x4_1 (⟨wrap64 ((Int.tmod t138 (wrap64 ((wrap64 (2 * (wrap64 (1 + t136)))) + 1))) - (wrap64 (1 + t136))), wrap64 (1 + t134), wrap64 ((wrap64 (1 + t134)) + (wrap64 (1 + t136)))⟩ : S28) [.int .i64 (wrap64 ((Int.tmod t138 (wrap64 ((wrap64 (2 * (wrap64 (1 + t136)))) + 1))) - (wrap64 (1 + t136)))), .int .i64 (wrap64 (1 + t134)), .int .i64 (wrap64 ((wrap64 (1 + t134)) + (wrap64 (1 + t136))))] (fun _ => True) (fun _ => False) rfl rfl ?aP (fun _ hk => hk.elim) ?aF ?aO ?aB ?aS ?aL ?_; (case aP => exact k28_mkM _ _ _ (⟨wrap64 ((Int.tmod t138 (wrap64 ((wrap64 (2 * (wrap64 (1 + t136)))) + 1))) - (wrap64 (1 + t136))), wrap64 (1 + t134), wrap64 ((wrap64 (1 + t134)) + (wrap64 (1 + t136)))⟩ : S28)); (case aB => exact (by repeat (first | (with_reducible first | exact HB.out | apply below_alloc | apply pw_below_drewN | apply below_drew1 | refine below_set ?_ (IsS66.ge HI131.out)) | exact HB.out))); (case aF => exact (fun _ _ => trivial)); (case aO => exact (by (with_reducible repeat (first | apply Kd.R_alloc | apply Kd.R_drewN | apply Kd.R_drew)); exact HO_4.out)); (case aS => exact (below_size (by repeat (first | (with_reducible first | exact HB.out | apply below_alloc | apply pw_below_drewN | apply below_drew1 | refine below_set ?_ (IsS66.ge HI131.out)) | exact HB.out)))); (case aL => have := LMc14.out; omega); intro v141 w18 ho hb hg hat; rw [← Ny140.out] at ho; have n0_ := Aside0.mk (IsS66.grown (by repeat (first | (with_reducible first | exact HI131.out | apply IsS66.alloc | apply IsS66.drewN | apply IsS66.drew | apply IsS66.set_1) | exact HI131.out)) hg (IsS66.own_ne HI131.out HO_4.out (by decide))); have n1_ := Aside0.mk (hb); have n2_ := Aside0.mk (ho); clear HI131; clear HB; clear HO_4; have HI131 := n0_; have HB := n1_; have HO142 := n2_; clear n0_ n1_ n2_; clear ho hb hg hat))
                go_roundg kj2
                case measure => have := HK1.out; have := HJ2.out; omega
                case rel => exact ⟨(y140), (t139), H', ⟨by have := HK1.out; have := HJ2.out; omega⟩, ⟨by (with_reducible repeat (first | apply Kd.R_alloc | apply Kd.R_drewN | apply Kd.R_drew)); exact HO142.out⟩, ⟨by repeat (first | (with_reducible first | exact HI131.out | apply IsS66.alloc | apply IsS66.drewN | apply IsS66.drew | apply IsS66.set_1) | exact HI131.out)⟩, ⟨by repeat (first | (with_reducible first | exact HB.out | apply below_alloc | apply pw_below_drewN | apply below_drew1 | refine below_set ?_ (IsS66.ge HI131.out)) | exact HB.out)⟩⟩
              · rw [if_neg c14] at H
                exact absurd H (by simp)
          · replace c9 := Bool.eq_false_iff.mpr c9
            subst c9
            have H1 : (some x4_1) = some r := by rw [if_neg (show ¬ (false = true) by decide)] at H; exact H
            clear H
            have H := H1
            clear H1
            obtain rfl := Option.some.inj H
            go_wp2
            go_ret
            exact ⟨_, by first | rfl | (simp [errW_none, errW_some] <;> rfl) | (simp [*, errW_none, errW_some] <;> rfl), by (with_reducible repeat (first | apply Kd.R_alloc | apply Kd.R_drewN | apply Kd.R_drew)); exact HO_4.out, by repeat (first | (with_reducible first | exact HB.out | apply below_alloc | apply pw_below_drewN | apply below_drew1 | refine below_set ?_ (IsS66.ge HI131.out)) | exact HB.out)⟩

end Go.Proofs.Ytafcnpfhihnmgaa.PA
