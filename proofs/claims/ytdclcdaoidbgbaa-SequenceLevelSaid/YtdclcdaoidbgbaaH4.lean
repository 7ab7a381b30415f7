/- By hand: Lower and Upper. -/
import Derived.Test.YtdclcdaoidbgbaaH3
namespace Go.Proofs.Ytdclcdaoidbgbaa.PA
open Go Go.RowKit Go.Maps Go.Proofs.YtdclcdaoidbgbaaW.PrintWords Go.Proofs.YtdclcdaoidbgbaaW.PrintLast Go.Proofs.YtdclcdaoidbgbaaW.PrintMore
set_option linter.unusedVariables false

theorem memo_new {w W : World} {l : List S50} {thr : Int} {up : Bool} (hb : Below w.heap.size w W) : Memo w l thr up W.heap.size 0 (W.alloc (.map #[] 0)) :=
  ⟨hb.size, hb.alloc hb.size _, .map [], World.ownsMap_made _ _ _ _, fun e c he hh => by cases hh⟩
set_option maxHeartbeats 4000000 in
set_option maxRecDepth 100000 in
theorem sideOf_calls {w : World} {A : Option Addr} {c : Nat} {l : List S50} {level thr : Int} {up : Bool} {k : Nat} (h : wealth_Threshold.f k level 2 = some thr) :
    Calls Try.prog 27 #[.slice A l.length c, .int .i64 level, .bool up] w fun e w' => ∃ b : Nat, e = .returned (.agg #[.slice A l.length c, .int .i64 thr, .bool up, .map (some b)]) ∧ Memo w l thr up b 0 w' := by
  have hu60 := Try.underlying60
  have hmm := @run_makeMap Try.prog
  have H := Aside0.mk h
  clear h
  go_enter Try.func27, Try.ntmps27
  go_wp2_with (first
    | (go_at_call 33; refine (wealth_Threshold.calls k level 2 thr _ H.out).mono ?_; rintro e1 w1 ⟨rfl, ⟨nd, rfl⟩⟩)
    | go_in)
  generalize hX : (((((((w.alloc (.cells #[.slice none 0 0, .int .i64 0, .bool false, .map none] 60)).drewN nd).setCell ⟨w.heap.size, 0, none⟩ (.slice A l.length c)).setCell ⟨w.heap.size, 1, none⟩ (.int .i64 thr)).setCell ⟨w.heap.size, 2, none⟩ (.bool up)).setCell ⟨w.heap.size, 3, none⟩ (.map (some (w.heap.size + 1))))) = X
  have b0 : Below w.heap.size w X := by
    rw [← hX]
    exact below_set (below_set (below_set (below_set (pw_below_drewN ((Below.refl _ _).alloc (Nat.le_refl _) _) nd) (Nat.le_refl _)) (Nat.le_refl _)) (Nat.le_refl _)) (Nat.le_refl _)
  have sz : X.heap.size = w.heap.size + 1 := by rw [← hX]; simp
  have g0 : X.heap[w.heap.size]? = some (.cells #[.slice A l.length c, .int .i64 thr, .bool up, .map (some (w.heap.size + 1))] 60 (0, 0)) := by
    rw [← hX]
    refine blk_put (cs := #[.slice A l.length c, .int .i64 thr, .bool up, .map none]) ?_ 3 _ rfl
    refine blk_put (cs := #[.slice A l.length c, .int .i64 thr, .bool false, .map none]) ?_ 2 _ rfl
    refine blk_put (cs := #[.slice A l.length c, .int .i64 0, .bool false, .map none]) ?_ 1 _ rfl
    refine blk_put (cs := #[.slice none 0 0, .int .i64 0, .bool false, .map none]) ?_ 0 _ rfl
    exact blk_drewN (blk_new _ _) nd
  clear hX
  refine bodyPost_ret (results_cell_row rfl _ _ w.heap.size 60 #[.slice A l.length c, .int .i64 thr, .bool up, .map (some (w.heap.size + 1))] (0, 0) _ rfl (by rw [Below.heap_alloc _ _ _ (by omega)]; exact g0) Try.underlying60 rfl (by kernel_rfl)) rfl ?_
  exact ⟨w.heap.size + 1, rfl, by rw [← sz]; exact memo_new b0⟩

def sequence_Lower.f (k : Nat) (l0 : List S50) (a1 : Int) : Option Int := (wealth_Threshold.f k a1 2).bind fun thr => end_.f k l0 thr true (l0.length : Int)
def sequence_Upper.f (k : Nat) (l0 : List S50) (a1 : Int) : Option Int := (wealth_Threshold.f k a1 2).bind fun thr => end_.f k l0 thr false (l0.length : Int)
set_option maxHeartbeats 4000000 in
set_option maxRecDepth 100000 in
theorem sequence_Lower.calls (k : Nat) (A0 : Option Addr) (c0 : Nat) (l0 : List S50) (a1 : Int) (r : Int) (w : World) (hr0 : Kd.C k50 w A0 l0.length l0) (hc0 : l0.length ≤ c0) (h : sequence_Lower.f k l0 a1 = some r) :
    Calls Try.prog 18 #[.slice A0 l0.length c0, .int .i64 a1] w fun e w' => e = .returned (.int .i64 r) ∧ Below w.heap.size w w' := by
  obtain ⟨thr, h1, h2⟩ := Option.bind_eq_some_iff.mp h
  have H1 := Aside0.mk h1
  have H2 := Aside0.mk h2
  have HR := Aside0.mk hr0
  have HL := Aside0.mk hc0
  clear h h1 h2 hr0 hc0
  go_enter Try.func18, Try.ntmps18
  go_wp2_with (first
    | (go_at_call 27; refine (sideOf_calls H1.out).mono ?_; rintro e1 w1 ⟨b, rfl, hM⟩)
    | (go_at_call 28; refine (end_calls HL.out HR.out hM (by unfold maxLen; omega) H2.out).mono ?_; rintro e1 w2 ⟨rfl, hM2, hF2⟩)
    | go_in)
  go_ret
  exact ⟨rfl, hM2.below⟩
set_option maxHeartbeats 4000000 in
set_option maxRecDepth 100000 in
theorem sequence_Upper.calls (k : Nat) (A0 : Option Addr) (c0 : Nat) (l0 : List S50) (a1 : Int) (r : Int) (w : World) (hr0 : Kd.C k50 w A0 l0.length l0) (hc0 : l0.length ≤ c0) (h : sequence_Upper.f k l0 a1 = some r) :
    Calls Try.prog 20 #[.slice A0 l0.length c0, .int .i64 a1] w fun e w' => e = .returned (.int .i64 r) ∧ Below w.heap.size w w' := by
  obtain ⟨thr, h1, h2⟩ := Option.bind_eq_some_iff.mp h
  have H1 := Aside0.mk h1
  have H2 := Aside0.mk h2
  have HR := Aside0.mk hr0
  have HL := Aside0.mk hc0
  clear h h1 h2 hr0 hc0
  go_enter Try.func20, Try.ntmps20
  go_wp2_with (first
    | (go_at_call 27; refine (sideOf_calls H1.out).mono ?_; rintro e1 w1 ⟨b, rfl, hM⟩)
    | (go_at_call 28; refine (end_calls HL.out HR.out hM (by unfold maxLen; omega) H2.out).mono ?_; rintro e1 w2 ⟨rfl, hM2, hF2⟩)
    | go_in)
  go_ret
  exact ⟨rfl, hM2.below⟩
theorem srch.mono {g g' : Int → Option Bool} (hg : ∀ i, LeO (g i) (g' i)) : ∀ (fuel : Nat) (lo hi : Int), LeO (srch.f g fuel lo hi) (srch.f g' fuel lo hi)
  | 0, lo, hi => by unfold srch.f; exact LeO.refl _
  | fuel + 1, lo, hi => by
    unfold srch.f
    exact LeO.ite (LeO.bind (hg _) (fun t => LeO.ite (srch.mono hg fuel _ _) (srch.mono hg fuel _ _))) (LeO.refl _)
theorem end_.mono (l : List S50) (thr : Int) (up : Bool) (kk : Int) (k : Nat) : LeO (end_.f k l thr up kk) (end_.f (k + 1) l thr up kk) :=
  LeO.bind (srch.mono (fun i => LeO.bind (known.mono _ _ _ _ _) (fun _ => LeO.refl _)) _ _ _) (fun _ => LeO.refl _)
theorem sequence_Lower.mono : ∀ a0 a1 k, LeO (sequence_Lower.f k a0 a1) (sequence_Lower.f (k + 1) a0 a1) := fun a0 a1 k =>
  LeO.bind (wealth_Threshold.mono _ _ _) (fun _ => end_.mono _ _ _ _ _)
theorem sequence_Upper.mono : ∀ a0 a1 k, LeO (sequence_Upper.f k a0 a1) (sequence_Upper.f (k + 1) a0 a1) := fun a0 a1 k =>
  LeO.bind (wealth_Threshold.mono _ _ _) (fun _ => end_.mono _ _ _ _ _)
end Go.Proofs.Ytdclcdaoidbgbaa.PA
