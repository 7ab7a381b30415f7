/- By hand: the confidence intervals after each number of scores. -/
import Derived.Test.YtdclcdaoidbgbaaH4
import Derived.Test.YtdclcdaoidbgbaaPA7
namespace Go.Proofs.Ytdclcdaoidbgbaa.PA
open Go Go.RowKit Go.Maps Go.Proofs.YtdclcdaoidbgbaaW.PrintWords Go.Proofs.YtdclcdaoidbgbaaW.PrintLast Go.Proofs.YtdclcdaoidbgbaaW.PrintMore
set_option linter.unusedVariables false

theorem Memo.step {w W W' : World} {l : List S50} {thr : Int} {up : Bool} {b n n' : Nat} (h : Memo w l thr up b n W) (hn : n ≤ n') (hb : Below w.heap.size w W') (he : W'.heap[b]? = W.heap[b]?) : Memo w l thr up b n' W' := by
  obtain ⟨h1, h2, D, ⟨es, clock, h3, F, hs, hD⟩, h4⟩ := h
  exact ⟨h1, hb, D, World.ownsMap.mono ⟨es, clock, he.trans h3, F, hs, hD⟩ hn, h4⟩
theorem Memo.base {w w' W : World} {l : List S50} {thr : Int} {up : Bool} {b n : Nat} (h : Memo w' l thr up b n W) (hle : w.heap.size ≤ w'.heap.size) (hb : Below w.heap.size w W) : Memo w l thr up b n W := ⟨Nat.le_trans hle h.new, hb, h.map⟩
theorem Memo.isMap {w W : World} {l : List S50} {thr : Int} {up : Bool} {b n : Nat} (h : Memo w l thr up b n W) : ∃ es clock, W.heap[b]? = some (Obj.map es clock) := by
  obtain ⟨_, _, D, ⟨es, clock, h3, _⟩, _⟩ := h
  exact ⟨_, _, h3⟩
theorem Memo.lt {w W : World} {l : List S50} {thr : Int} {up : Bool} {b n : Nat} (h : Memo w l thr up b n W) : b < W.heap.size := by
  obtain ⟨_, _, h3⟩ := h.isMap
  exact (Array.getElem?_eq_some_iff.1 h3).1
theorem Memo.ne {w W : World} {l : List S50} {thr : Int} {up : Bool} {b n g t : Nat} {cs : Array Value} (h : Memo w l thr up b n W) (hg : W.heap[g]? = some (.cells cs t (0, 0))) : g ≠ b := by
  obtain ⟨es, clock, h3⟩ := h.isMap
  intro e
  subst e
  rw [h3] at hg
  cases hg

/-- Where the intervals stand, in the midst of Of. -/
structure OfI (w : World) (l : List S50) (thr : Int) (A : Option Addr) (c g4 g5 g6 g7 b1 b2 : Nat) (u0 u1 : Value) (xs ys : List Int) (n : Nat) (W : World) : Prop where
  m1 : Memo w l thr true b1 n W
  m2 : Memo w l thr false b2 n W
  hne : b1 ≠ b2
  k4 : W.heap[g4]? = some (.cells #[.slice none 0 0, .slice none 0 0] 27 (0, 0))
  k5 : W.heap[g5]? = some (.cells #[.slice A l.length c, .int .i64 thr, .bool true, .map (some b1)] 60 (0, 0))
  k6 : W.heap[g6]? = some (.cells #[.slice A l.length c, .int .i64 thr, .bool false, .map (some b2)] 60 (0, 0))
  k7 : W.heap[g7]? = some (.cells #[u0, u1] 27 (0, 0))
  r0 : (Kd.int .i64).R 3 W w.heap.size (fun k => some k ≠ u1.ownBlock) u0 xs
  r1 : (Kd.int .i64).R 3 W w.heap.size (fun k => some k ≠ u0.ownBlock) u1 ys
  g47 : g4 ≠ g7
  e4 : w.heap.size ≤ g4
  e7 : w.heap.size ≤ g7
section
variable {w W W' : World} {l : List S50} {thr : Int} {A : Option Addr} {c g4 g5 g6 g7 b1 b2 n n' : Nat} {u0 u1 : Value} {xs ys : List Int}
theorem R_away {d : Kd Int} {e base : Nat} {ok : Nat → Prop} {v : Value} {zs : List Int} {b : Nat} (h : d.R e W base ok v zs) (hm : ∃ es clock, W.heap[b]? = some (Obj.map es clock)) (hf : Far b W W') : d.R e W' base ok v zs := by
  obtain ⟨es, clock, hm⟩ := hm
  refine Kd.R_mono (Kd.R_step (Kd.R_bound h) (fun k hk hlt => hf.2 k hlt (fun he => ?_))) (fun k hk => hk.1)
  obtain ⟨_, _, _, q, _, cells, hc⟩ := hk
  subst he
  rw [hm] at hc
  cases hc
theorem OfI.far1 (h : OfI w l thr A c g4 g5 g6 g7 b1 b2 u0 u1 xs ys n W) (hf : Far b1 W W') (hm : Memo w l thr true b1 n' W') (hn : n ≤ n') : OfI w l thr A c g4 g5 g6 g7 b1 b2 u0 u1 xs ys n' W' where
  m1 := hm
  m2 := h.m2.step hn hm.below (hf.2 _ h.m2.lt (Ne.symm h.hne))
  hne := h.hne
  k4 := (hf.2 _ (blk_lt h.k4) (h.m1.ne h.k4)).trans h.k4
  k5 := (hf.2 _ (blk_lt h.k5) (h.m1.ne h.k5)).trans h.k5
  k6 := (hf.2 _ (blk_lt h.k6) (h.m1.ne h.k6)).trans h.k6
  k7 := (hf.2 _ (blk_lt h.k7) (h.m1.ne h.k7)).trans h.k7
  r0 := R_away h.r0 h.m1.isMap hf
  r1 := R_away h.r1 h.m1.isMap hf
  g47 := h.g47
  e4 := h.e4
  e7 := h.e7
theorem OfI.far2 (h : OfI w l thr A c g4 g5 g6 g7 b1 b2 u0 u1 xs ys n W) (hf : Far b2 W W') (hm : Memo w l thr false b2 n' W') (hn : n ≤ n') : OfI w l thr A c g4 g5 g6 g7 b1 b2 u0 u1 xs ys n' W' where
  m1 := h.m1.step hn hm.below (hf.2 _ h.m1.lt h.hne)
  m2 := hm
  hne := h.hne
  k4 := (hf.2 _ (blk_lt h.k4) (h.m2.ne h.k4)).trans h.k4
  k5 := (hf.2 _ (blk_lt h.k5) (h.m2.ne h.k5)).trans h.k5
  k6 := (hf.2 _ (blk_lt h.k6) (h.m2.ne h.k6)).trans h.k6
  k7 := (hf.2 _ (blk_lt h.k7) (h.m2.ne h.k7)).trans h.k7
  r0 := R_away h.r0 h.m2.isMap hf
  r1 := R_away h.r1 h.m2.isMap hf
  g47 := h.g47
  e4 := h.e4
  e7 := h.e7
theorem OfI.below (h : OfI w l thr A c g4 g5 g6 g7 b1 b2 u0 u1 xs ys n W) (hb : Below W.heap.size W W') : OfI w l thr A c g4 g5 g6 g7 b1 b2 u0 u1 xs ys n W' := by
  have b0 : Below w.heap.size w W' := below_step h.m1.below hb
  exact ⟨h.m1.step (Nat.le_refl _) b0 (hb.block _ h.m1.lt), h.m2.step (Nat.le_refl _) b0 (hb.block _ h.m2.lt), h.hne, (hb.block _ (blk_lt h.k4)).trans h.k4, (hb.block _ (blk_lt h.k5)).trans h.k5, (hb.block _ (blk_lt h.k6)).trans h.k6, (hb.block _ (blk_lt h.k7)).trans h.k7,
    Kd.R_below h.r0 hb, Kd.R_below h.r1 hb, h.g47, h.e4, h.e7⟩
theorem OfI.drew (h : OfI w l thr A c g4 g5 g6 g7 b1 b2 u0 u1 xs ys n W) : OfI w l thr A c g4 g5 g6 g7 b1 b2 u0 u1 xs ys n W.drew := h.below (below_drew (Below.refl _ _))
theorem OfI.alloc (h : OfI w l thr A c g4 g5 g6 g7 b1 b2 u0 u1 xs ys n W) (o : Obj) : OfI w l thr A c g4 g5 g6 g7 b1 b2 u0 u1 xs ys n (W.alloc o) := h.below ((Below.refl _ _).alloc (Nat.le_refl _) o)
/-- A row has grown (or moved), and its place is told so. -/
theorem OfI.put0 {v : Value} {zs : List Int} (h : OfI w l thr A c g4 g5 g6 g7 b1 b2 u0 u1 xs ys n W) (hr : (Kd.int .i64).R 3 W' w.heap.size (fun k => some k ≠ u1.ownBlock) v zs) (hb : Below w.heap.size w W') (hg : W.grownBy W' u0.ownBlock) (hat : v.ownBlock = u0.ownBlock ∨ ∃ b, v.ownBlock = some b ∧ W.heap.size ≤ b) :
    OfI w l thr A c g4 g5 g6 g7 b1 b2 v u1 zs ys n (W'.setCell ⟨g7, 0, none⟩ v) := by
  have n4 := Kd.R_ne h.r0 h.k4 (by decide)
  have n5 := Kd.R_ne h.r0 h.k5 (by decide)
  have n6 := Kd.R_ne h.r0 h.k6 (by decide)
  have n7 := Kd.R_ne h.r0 h.k7 (by decide)
  have nm : ∀ b : Nat, (∃ es clock, W.heap[b]? = some (Obj.map es clock)) → some b ≠ u0.ownBlock := by
    rintro b ⟨es, clock, hm⟩ e
    obtain ⟨_, _, q, _, cells, hc⟩ := (Kd.R_bound h.r0).1 b e.symm |>.2
    rw [hm] at hc
    cases hc
  have k7 : W'.heap[g7]? = some (.cells #[u0, u1] 27 (0, 0)) := blk_grown h.k7 hg n7
  have mb : ∀ b : Nat, (∃ es clock, W.heap[b]? = some (Obj.map es clock)) → (W'.setCell ⟨g7, 0, none⟩ v).heap[b]? = W.heap[b]? := by
    intro b hm
    have hne : b ≠ g7 := by
      rintro rfl
      obtain ⟨es, clock, hm⟩ := hm
      rw [h.k7] at hm
      cases hm
    rw [Below.heap_setCell _ _ _ _ hne]
    obtain ⟨es, clock, hm'⟩ := hm
    exact hg.block b (Array.getElem?_eq_some_iff.1 hm').1 (nm b ⟨_, _, hm'⟩)
  have bs : Below w.heap.size w (W'.setCell ⟨g7, 0, none⟩ v) := below_set hb h.e7
  have r1' : (Kd.int .i64).R 3 W' w.heap.size (fun k => some k ≠ v.ownBlock) u1 ys := Kd.R_mono (Kd.R_after (ok := fun _ => True) (Kd.R_mono h.r1 (fun _ hk => ⟨trivial, hk⟩)) hg hat) (fun _ hk => hk.2)
  refine ⟨h.m1.step (Nat.le_refl _) bs (mb _ h.m1.isMap), h.m2.step (Nat.le_refl _) bs (mb _ h.m2.isMap), h.hne, blk_far (blk_grown h.k4 hg n4) h.g47 _, blk_far (blk_grown h.k5 hg n5) (blk_ne h.k5 h.k7 (by decide)) _, blk_far (blk_grown h.k6 hg n6) (blk_ne h.k6 h.k7 (by decide)) _, blk_put k7 0 _ rfl, ?_, ?_, h.g47, h.e4, h.e7⟩
  · exact Kd.R_mono (Kd.R_far (p := ⟨g7, 0, none⟩) (Kd.R_types hr k7 (by decide)) (fun _ hk => hk.2) v) (fun _ hk => hk.1)
  · exact Kd.R_mono (Kd.R_far (p := ⟨g7, 0, none⟩) (Kd.R_types r1' k7 (by decide)) (fun _ hk => hk.2) v) (fun _ hk => hk.1)
theorem OfI.put1 {v : Value} {zs : List Int} (h : OfI w l thr A c g4 g5 g6 g7 b1 b2 u0 u1 xs ys n W) (hr : (Kd.int .i64).R 3 W' w.heap.size (fun k => some k ≠ u0.ownBlock) v zs) (hb : Below w.heap.size w W') (hg : W.grownBy W' u1.ownBlock) (hat : v.ownBlock = u1.ownBlock ∨ ∃ b, v.ownBlock = some b ∧ W.heap.size ≤ b) :
    OfI w l thr A c g4 g5 g6 g7 b1 b2 u0 v xs zs n (W'.setCell ⟨g7, 1, none⟩ v) := by
  have n4 := Kd.R_ne h.r1 h.k4 (by decide)
  have n5 := Kd.R_ne h.r1 h.k5 (by decide)
  have n6 := Kd.R_ne h.r1 h.k6 (by decide)
  have n7 := Kd.R_ne h.r1 h.k7 (by decide)
  have nm : ∀ b : Nat, (∃ es clock, W.heap[b]? = some (Obj.map es clock)) → some b ≠ u1.ownBlock := by
    rintro b ⟨es, clock, hm⟩ e
    obtain ⟨_, _, q, _, cells, hc⟩ := (Kd.R_bound h.r1).1 b e.symm |>.2
    rw [hm] at hc
    cases hc
  have k7 : W'.heap[g7]? = some (.cells #[u0, u1] 27 (0, 0)) := blk_grown h.k7 hg n7
  have mb : ∀ b : Nat, (∃ es clock, W.heap[b]? = some (Obj.map es clock)) → (W'.setCell ⟨g7, 1, none⟩ v).heap[b]? = W.heap[b]? := by
    intro b hm
    have hne : b ≠ g7 := by
      rintro rfl
      obtain ⟨es, clock, hm⟩ := hm
      rw [h.k7] at hm
      cases hm
    rw [Below.heap_setCell _ _ _ _ hne]
    obtain ⟨es, clock, hm'⟩ := hm
    exact hg.block b (Array.getElem?_eq_some_iff.1 hm').1 (nm b ⟨_, _, hm'⟩)
  have bs : Below w.heap.size w (W'.setCell ⟨g7, 1, none⟩ v) := below_set hb h.e7
  have r0' : (Kd.int .i64).R 3 W' w.heap.size (fun k => some k ≠ v.ownBlock) u0 xs := Kd.R_mono (Kd.R_after (ok := fun _ => True) (Kd.R_mono h.r0 (fun _ hk => ⟨trivial, hk⟩)) hg hat) (fun _ hk => hk.2)
  refine ⟨h.m1.step (Nat.le_refl _) bs (mb _ h.m1.isMap), h.m2.step (Nat.le_refl _) bs (mb _ h.m2.isMap), h.hne, blk_far (blk_grown h.k4 hg n4) h.g47 _, blk_far (blk_grown h.k5 hg n5) (blk_ne h.k5 h.k7 (by decide)) _, blk_far (blk_grown h.k6 hg n6) (blk_ne h.k6 h.k7 (by decide)) _, blk_put k7 1 _ rfl, ?_, ?_, h.g47, h.e4, h.e7⟩
  · exact Kd.R_mono (Kd.R_far (p := ⟨g7, 1, none⟩) (Kd.R_types r0' k7 (by decide)) (fun _ hk => hk.2) v) (fun _ hk => hk.1)
  · exact Kd.R_mono (Kd.R_far (p := ⟨g7, 1, none⟩) (Kd.R_types hr k7 (by decide)) (fun _ hk => hk.2) v) (fun _ hk => hk.1)
end

/-- What Of tells, from place i on. -/
def ofGo (k : Nat) (l : List S50) (thr : Int) : Nat → Nat → List Int → List Int → Option (List Int × List Int)
  | 0, _, xs, ys => some (xs, ys)
  | m + 1, i, xs, ys => (end_.f k l thr true ((i : Int) + 1)).bind fun a => (end_.f k l thr false ((i : Int) + 1)).bind fun b => ofGo k l thr m (i + 1) (xs ++ [a]) (ys ++ [b])
def sequence_Of.f (k : Nat) (l0 : List S50) (a1 : Int) : Option (List Int × List Int) := if l0.length < 1000000 then (wealth_Threshold.f k a1 2).bind fun thr => ofGo k l0 thr l0.length 0 [] [] else none
theorem ofGo.mono (l : List S50) (thr : Int) (k : Nat) : ∀ (m i : Nat) (xs ys : List Int), LeO (ofGo k l thr m i xs ys) (ofGo (k + 1) l thr m i xs ys)
  | 0, i, xs, ys => LeO.refl _
  | m + 1, i, xs, ys => LeO.bind (end_.mono _ _ _ _ _) (fun _ => LeO.bind (end_.mono _ _ _ _ _) (fun _ => ofGo.mono l thr k m (i + 1) _ _))
theorem sequence_Of.mono : ∀ a0 a1 k, LeO (sequence_Of.f k a0 a1) (sequence_Of.f (k + 1) a0 a1) := fun a0 a1 k =>
  LeO.ite (LeO.bind (wealth_Threshold.mono _ _ _) (fun _ => ofGo.mono _ _ _ _ _ _ _)) (LeO.refl _)
theorem ofGo_step {k : Nat} {l : List S50} {thr : Int} {m i : Nat} {xs ys : List Int} {r : List Int × List Int} (hi : i < 1000000) (h : ofGo k l thr (m + 1) i xs ys = some r) : ∃ a b, end_.f k l thr true (wrap64 ((i : Int) + 1)) = some a ∧ end_.f k l thr false (wrap64 ((i : Int) + 1)) = some b ∧ ofGo k l thr m (i + 1) (xs ++ [a]) (ys ++ [b]) = some r := by
  unfold ofGo at h
  obtain ⟨a, ha, h⟩ := Option.bind_eq_some_iff.mp h
  obtain ⟨b, hb, h⟩ := Option.bind_eq_some_iff.mp h
  have hw : wrap64 ((i : Int) + 1) = (i : Int) + 1 := by unfold wrap64; omega
  rw [hw]
  exact ⟨a, b, ha, hb, h⟩
theorem tab_of6 : rtab .any (opsOf Try.f12 6) = (true, [([], []), ([0], [0]), ([], []), ([], []), ([3], [3]), ([2, 4], [2, 4]), ([5], [5]), ([1, 6, 5], [1, 6]), ([0, 1, 2, 3, 4, 5, 6, 7], []), ([8, 7, 7, 0, 1, 2, 3, 4, 5, 6, 7], [7, 8])]) := by kernel_rfl
theorem tab_of7 : rtab .any (opsOf Try.f12 7) = (true, [([], []), ([0], [0]), ([], []), ([], []), ([3], [3]), ([2, 4], [2, 4]), ([5], [5]), ([1, 6, 5], [1, 6]), ([0, 1, 2, 3, 4, 5, 6, 7], []), ([8, 7, 7, 0, 1, 2, 3, 4, 5, 6, 7], [7, 8])]) := by kernel_rfl
theorem bits_of : waitsOk [([], []), ([0], [0]), ([], []), ([], []), ([3], [3]), ([2, 4], [2, 4]), ([5], [5]), ([1, 6, 5], [1, 6]), ([0, 1, 2, 3, 4, 5, 6, 7], []), ([8, 7, 7, 0, 1, 2, 3, 4, 5, 6, 7], [7, 8])] [0, 1, 0, 0, 8, 28, 60, 127, 255, 511] = true := by kernel_rfl
set_option maxHeartbeats 4000000 in
set_option maxRecDepth 100000 in
theorem sequence_Of.calls (k : Nat) (A0 : Option Addr) (c0 : Nat) (l0 : List (S50)) (a1 : Int) (r1 : List Int) (r2 : List Int) (w : World) (hr0 : Kd.C k50 w A0 l0.length l0) (hc0 : l0.length ≤ c0) (h : sequence_Of.f k l0 a1 = some (r1, r2)) :
    Calls Try.prog 12 #[.slice A0 l0.length c0, .int .i64 a1] w fun e w' => ∃ v0_ v1_ : Value, e = .returned (.agg #[v0_, v1_]) ∧ Kd.R (Kd.int .i64) 3 w' w.heap.size (fun k_ => some k_ ≠ (v1_ : Value).ownBlock) v0_ r1 ∧ Kd.R (Kd.int .i64) 3 w' w.heap.size (fun k_ => some k_ ≠ (v0_ : Value).ownBlock) v1_ r2 ∧ Below w.heap.size w w' := by
  have hu27 := Try.underlying27
  have hu60 := Try.underlying60
  unfold sequence_Of.f at h
  by_cases hlen : l0.length < 1000000
  · rw [if_pos hlen] at h
    obtain ⟨thr, h1, h2⟩ := Option.bind_eq_some_iff.mp h
    have H1 := Aside0.mk h1
    have H2 := Aside0.mk h2
    have HR := Aside0.mk hr0
    have HL := Aside0.mk hc0
    have HN := Aside0.mk hlen
    clear h h1 h2 hr0 hc0 hlen
    go_enter Try.func12, Try.ntmps12
    go_wp2_with (first
      | (go_at_call 27; refine calls_of_args (args' := #[.slice A0 l0.length c0, .int .i64 a1, .bool true]) (by first | rfl) ?_; refine (sideOf_calls (up := true) H1.out).mono ?_; rintro e1 w1 ⟨b1, rfl, hM1⟩)
      | (go_at_call 27; refine calls_of_args (args' := #[.slice A0 l0.length c0, .int .i64 a1, .bool false]) (by first | rfl) ?_; refine (sideOf_calls (up := false) H1.out).mono ?_; rintro e2 w2 ⟨b2, rfl, hM2⟩)
      | go_in)
    have lt4 : w.heap.size < w1.heap.size := by have := hM1.below.size; simp at this; omega
    have lt5 : w1.heap.size ≤ w2.heap.size := hM2.below.size
    have I0 : OfI w l0 thr A0 c0 w.heap.size w2.heap.size (w2.heap.size + 1) (w2.heap.size + 1 + 1) b1 b2 (.slice none 0 0) (.slice none 0 0) [] [] 0 (((w2.alloc (.cells #[.slice A0 l0.length c0, .int .i64 thr, .bool true, .map (some b1)] 60)).alloc (.cells #[.slice A0 l0.length c0, .int .i64 thr, .bool false, .map (some b2)] 60)).alloc (.cells #[.slice none 0 0, .slice none 0 0] 27)) := by
      have bw0 : Below w.heap.size w (w.alloc (.cells #[.slice none 0 0, .slice none 0 0] 27)) := (Below.refl _ _).alloc (Nat.le_refl _) _
      have bw1 : Below w.heap.size w w1 := below_step bw0 (below_less hM1.below (Nat.le_refl _))
      have bw2 : Below w.heap.size w w2 := below_step bw1 hM2.below
      have bw3 : Below w.heap.size w (((w2.alloc (.cells #[.slice A0 l0.length c0, .int .i64 thr, .bool true, .map (some b1)] 60)).alloc (.cells #[.slice A0 l0.length c0, .int .i64 thr, .bool false, .map (some b2)] 60)).alloc (.cells #[.slice none 0 0, .slice none 0 0] 27)) := below_alloc (below_alloc (below_alloc bw2 _) _) _
      have sz : ∀ (X : World) (o : Obj), (X.alloc o).heap.size = X.heap.size + 1 := fun X o => by simp
      have l1 := hM1.lt
      have l2 := hM2.lt
      have hb12 : b1 < b2 := Nat.lt_of_lt_of_le l1 hM2.new
      have up : ∀ g : Nat, g < w2.heap.size → (((w2.alloc (.cells #[.slice A0 l0.length c0, .int .i64 thr, .bool true, .map (some b1)] 60)).alloc (.cells #[.slice A0 l0.length c0, .int .i64 thr, .bool false, .map (some b2)] 60)).alloc (.cells #[.slice none 0 0, .slice none 0 0] 27)).heap[g]? = w2.heap[g]? := fun g hg => by
        rw [Below.heap_alloc _ _ _ (by simp; omega), Below.heap_alloc _ _ _ (by simp; omega), Below.heap_alloc _ _ _ hg]
      refine ⟨?_, ?_, by omega, ?_, ?_, ?_, ?_, Kd.R_nil _ _ _ _ _, Kd.R_nil _ _ _ _ _, by omega, Nat.le_refl _, by omega⟩
      · have := hM1.base (w := w) (by simp) bw1
        exact this.step (Nat.le_refl _) bw3 ((up b1 (by omega)).trans (hM2.below.block b1 l1))
      · have := hM2.base (w := w) (by omega) bw2
        exact this.step (Nat.le_refl _) bw3 (up b2 l2)
      · exact (up _ (by omega)).trans ((hM2.below.block _ lt4).trans ((hM1.below.block _ (by simp)).trans (blk_new _ _)))
      · exact blk_alloc (blk_alloc (blk_new _ _) _) _
      · have h6 := blk_new (w2.alloc (.cells #[.slice A0 l0.length c0, .int .i64 thr, .bool true, .map (some b1)] 60)) (.cells #[.slice A0 l0.length c0, .int .i64 thr, .bool false, .map (some b2)] 60)
        rw [sz] at h6
        exact blk_alloc h6 _
      · have h7 := blk_new ((w2.alloc (.cells #[.slice A0 l0.length c0, .int .i64 thr, .bool true, .map (some b1)] 60)).alloc (.cells #[.slice A0 l0.length c0, .int .i64 thr, .bool false, .map (some b2)] 60)) (.cells #[.slice none 0 0, .slice none 0 0] 27)
        rw [sz, sz] at h7
        exact h7
    clear hM1 hM2
    have I00 := Aside0.mk I0
    clear I0
    go_loopg [17] (l0.length + 1) (fun kx s17 wr => ∃ (i n : Nat) (xs ys : List Int) (u0 u1 : Value), s17 = .int .i64 i ∧ i ≤ l0.length ∧ l0.length < i + kx ∧ xs.length = i ∧ ys.length = i ∧ n ≤ 4002 * i ∧ Aside0 (ofGo k l0 thr (l0.length - i) i xs ys = some (r1, r2)) ∧ Aside0 (OfI w l0 thr A0 c0 w.heap.size w2.heap.size (w2.heap.size + 1) (w2.heap.size + 1 + 1) b1 b2 u0 u1 xs ys n wr))
    case atStart => exact ⟨0, 0, [], [], _, _, rfl, Nat.zero_le _, by omega, rfl, rfl, by omega, ⟨H2.out⟩, I00⟩
    case round =>
      clear I00 H1 H2
      obtain ⟨i, n, xs, ys, u0, u1, rfl, hi, hk, hx, hy, hn, HG, I0⟩ := hrel
      have hN := HN.out
      by_cases hlt : i < l0.length
      · cases gk with
        | zero => omega
        | succ gk =>
          obtain ⟨m, hm⟩ : ∃ m, l0.length - i = m + 1 := ⟨l0.length - i - 1, by omega⟩
          rw [hm] at HG
          obtain ⟨ra, rb, ha, hb, hG⟩ := ofGo_step (by omega) HG.out
          have EA := Aside0.mk ha
          have EB := Aside0.mk hb
          have EG := Aside0.mk hG
          clear ha hb hG HG
          have hd : decide ((i : Int) < (l0.length : Int)) = true := decide_eq_true (by omega)
          have F0 : Aside0 (i < l0.length ∧ xs.length = i ∧ ys.length = i ∧ n ≤ 4002 * i ∧ l0.length - i = m + 1 ∧ l0.length < i + (gk + 1) ∧ l0.length < 1000000) := ⟨by omega⟩
          clear hx hy hn hm hk hi hN
          go_wp2
          clear hlt
          obtain ⟨XS, hXS⟩ : ∃ X : List Int, X = xs ++ [ra] := ⟨_, rfl⟩
          obtain ⟨YS, hYS⟩ : ∃ X : List Int, X = ys ++ [rb] := ⟨_, rfl⟩
          have NX0 := Aside0.mk hXS
          have NX1 := Aside0.mk hYS
          clear hXS hYS
          refine start_ (n := 10) (S := fun w' => w'.cell? ⟨(w2.heap.size + 1 + 1), 0, none⟩ = some u0 ∧ w'.cell? ⟨w2.heap.size, 0, none⟩ = some (.slice A0 l0.length c0) ∧ w'.cell? ⟨w2.heap.size, 1, none⟩ = some (.int .i64 thr) ∧ w'.cell? ⟨w2.heap.size, 2, none⟩ = some (.bool true) ∧ w'.cell? ⟨w2.heap.size, 3, none⟩ = some (.map (some b1))) (ds := [9]) #[false, false, false, false, false, false, false, false, false, false] (by kernel_rfl) rfl rfl ⟨(blk_cell I0.out.k7 0).trans rfl, (blk_cell I0.out.k5 0).trans rfl, (blk_cell I0.out.k5 1).trans rfl, (blk_cell I0.out.k5 2).trans rfl, (blk_cell I0.out.k5 3).trans rfl⟩ (fun hHeld => ?_)
          refine with_tabW tab_of6 bits_of (fun HT_ HW_ => ?_)
          have I1 := Aside0.mk I0.out.drew
          clear I0
          generalize wr.drew = w14 at I1 hHeld ⊢
          refine pure_ (i := 0) (N := some 20) (v := ?_) (a' := ?_) #[true, false, false, false, false, false, false, false, false, false] rfl rfl (any_of HT_.out (by kernel_rfl)) (fun _ _ _ h => h) (Or.inl ⟨by rfl, ?_⟩) ?_ ?_
          rotate_left
          · intro w'
            go_simp
            with_reducible rfl
          rotate_left
          · simp only [Act.put, List.setIfInBounds_toArray, List.set_cons_zero, List.set_cons_succ, i64_w, i32_w]
            rfl
          refine pure_ (i := 3) (N := some 23) (v := ?_) (a' := ?_) #[true, false, false, true, false, false, false, false, false, false] rfl rfl (any_of HT_.out (by kernel_rfl)) (fun _ _ _ h => h) (Or.inl ⟨by rfl, ?_⟩) ?_ ?_
          rotate_left
          · intro w'
            go_simp
            with_reducible rfl
          rotate_left
          · simp only [Act.put, List.setIfInBounds_toArray, List.set_cons_zero, List.set_cons_succ, i64_w, i32_w]
            rfl
          refine pure_ (i := 4) (N := some 24) (v := ?_) (a' := ?_) #[true, false, false, true, true, false, false, false, false, false] rfl rfl (any_of HT_.out (by kernel_rfl)) (fun _ _ _ h => h) (Or.inl ⟨by rfl, ?_⟩) ?_ ?_
          rotate_left
          · intro w'
            go_simp
            with_reducible rfl
          rotate_left
          · simp only [Act.put, List.setIfInBounds_toArray, List.set_cons_zero, List.set_cons_succ, i64_w, i32_w]
            rfl
          refine take_ (i := 1) (N := some 21) (v := ?_) (a' := ?_) #[true, true, false, true, true, false, false, false, false, false] rfl rfl (take_ofW HT_.out HW_.out (by kernel_rfl)) (fun _ _ _ h => h) (Or.inl ⟨by rfl, ?_⟩) hHeld ?_ ?_
          rotate_left
          · rintro w' ⟨s0, s1, s2, s3, s4⟩
            go_simp
            with_reducible rfl
          rotate_left
          · simp only [Act.put, List.setIfInBounds_toArray, List.set_cons_zero, List.set_cons_succ, i64_w, i32_w]
            rfl
          refine take_ (i := 2) (N := some 22) (v := ?_) (a' := ?_) #[true, true, true, true, true, false, false, false, false, false] rfl rfl (take_ofW HT_.out HW_.out (by kernel_rfl)) (fun _ _ _ h => h) (Or.inl ⟨by rfl, ?_⟩) hHeld ?_ ?_
          rotate_left
          · rintro w' ⟨s0, s1, s2, s3, s4⟩
            go_simp
            with_reducible rfl
          rotate_left
          · simp only [Act.put, List.setIfInBounds_toArray, List.set_cons_zero, List.set_cons_succ, i64_w, i32_w]
            rfl
          refine one_ (i := 5) (N := some 25) #[true, true, true, true, true, true, false, false, false, false] rfl rfl (one_of HT_.out (by kernel_rfl)) (by decide) (fun K hK => ?_)
          refine goes_ Try.func28 (by kernel_rfl) rfl #[.agg #[.slice A0 l0.length c0, .int .i64 thr, .bool true, .map (some b1)], .int .i64 (wrap64 ((i : Int) + 1))] (by rfl) rfl rfl (by (try simp only [List.map_toArray, List.map_cons, List.map_nil]); first | done | rfl) ?_
          with_reducible refine (end_calls (n := n) HL.out HR.out I1.out.m1 (by have := F0.out; unfold maxLen; omega) EA.out).mono ?_
          rintro e w17 ⟨rfl, hM, hF⟩
          refine ⟨_, rfl, ?_⟩
          have I2 := Aside0.mk (I1.out.far1 hF hM (by omega))
          clear hM hF I1
          refine hK.out _ _ ⟨(blk_cell I2.out.k7 0).trans rfl, (blk_cell I2.out.k5 0).trans rfl, (blk_cell I2.out.k5 1).trans rfl, (blk_cell I2.out.k5 2).trans rfl, (blk_cell I2.out.k5 3).trans rfl⟩ (fun hHeld => ?_)
          clear hK K
          refine norm_ (a' := ?_) ?_ ?_
          rotate_left
          · show Act.put _ (some 25) _ = _
            simp only [Act.put, List.setIfInBounds_toArray, List.set_cons_zero, List.set_cons_succ, i64_w, i32_w]
            rfl
          refine one_ (i := 6) (N := some 26) #[true, true, true, true, true, true, true, false, false, false] rfl rfl (one_of HT_.out (by kernel_rfl)) (by decide) (fun K hK => ?_)
          refine value_ (w1 := ?_) (v := ?_) (by rfl) rfl ?_ ?_
          rotate_left 2
          · go_simp
            constructor
            · rfl
            · rfl
          refine hK.out _ _ ⟨(blk_cell (blk_alloc I2.out.k7 _) 0).trans rfl, (blk_cell (blk_alloc I2.out.k5 _) 0).trans rfl, (blk_cell (blk_alloc I2.out.k5 _) 1).trans rfl, (blk_cell (blk_alloc I2.out.k5 _) 2).trans rfl, (blk_cell (blk_alloc I2.out.k5 _) 3).trans rfl⟩ (fun hHeld => ?_)
          clear hK K
          refine norm_ (a' := ?_) ?_ ?_
          rotate_left
          · show Act.put _ (some 26) _ = _
            simp only [Act.put, List.setIfInBounds_toArray, List.set_cons_zero, List.set_cons_succ, i64_w, i32_w]
            rfl
          refine one_ (i := 7) (N := some 27) #[true, true, true, true, true, true, true, true, false, false] rfl rfl (one_of HT_.out (by kernel_rfl)) (by decide) (fun K hK => ?_)
          refine Kd.R_append_step (Kd.int .i64) (w0 := w) w.heap.size (by rfl) (.tmp 21) (.tmp 26) 25 3 (.int .i64 0) 8 rfl Try.underlying25 info3 rfl (by decide) (by omega) u0 xs ra [.int .i64 ra] (fun k_ => some k_ ≠ (u1 : Value).ownBlock) (fun _ => False) rfl rfl ?aP (fun _ hk => hk.elim) ?aF ?aO ?aB ?aS ?aL ?_
          (case aP => exact rfl)
          (case aB => exact I2.out.m1.below)
          (case aF => exact (fun k_ hk => Kd.fresh' (Kd.R_lt I2.out.r1) k_ hk))
          (case aO => exact I2.out.r0)
          (case aS => exact below_size I2.out.m1.below)
          (case aL => have := F0.out; omega)
          intro v w18 ho hb hg hat
          rw [← NX0.out] at ho
          have I3 := Aside0.mk (I2.out.put0 ho hb hg hat)
          have q7 := Aside0.mk (blk_grown I2.out.k7 hg (Kd.R_ne I2.out.r0 I2.out.k7 (by decide)))
          have q5 := Aside0.mk (blk_grown I2.out.k5 hg (Kd.R_ne I2.out.r0 I2.out.k5 (by decide)))
          obtain ⟨Ao, co, eo⟩ := Kd.R_slice ho
          clear hb hg hat ho I2
          refine hK.out _ _ ⟨(blk_cell q7.out 0).trans rfl, (blk_cell q5.out 0).trans rfl, (blk_cell q5.out 1).trans rfl, (blk_cell q5.out 2).trans rfl, (blk_cell q5.out 3).trans rfl⟩ (fun hHeld => ?_)
          clear hK K
          refine norm_ (a' := ?_) ?_ ?_
          rotate_left
          · show Act.put _ (some 27) _ = _
            simp only [Act.put, List.setIfInBounds_toArray, List.set_cons_zero, List.set_cons_succ, i64_w, i32_w]
            rfl
          refine pure_ (i := 8) (N := some 28) (v := ?_) (a' := ?_) #[true, true, true, true, true, true, true, true, true, false] rfl rfl (any_of HT_.out (by kernel_rfl)) (fun _ _ _ h => h) (Or.inl ⟨by rfl, ?_⟩) ?_ ?_
          rotate_left
          · intro w'
            go_simp
            with_reducible rfl
          rotate_left
          · simp only [Act.put, List.setIfInBounds_toArray, List.set_cons_zero, List.set_cons_succ, i64_w, i32_w]
            rfl
          refine last_ (i := 9) (N := none) #[true, true, true, true, true, true, true, true, true, true] rfl rfl (one_of HT_.out (by kernel_rfl)) (by decide) (fun K hK => ?_)
          have hs : w18.cell? ⟨(w2.heap.size + 1 + 1), 0, none⟩ = some u0 := (blk_cell q7.out 0).trans rfl
          have hfs := blk_frozen q7.out 0
          subst eo
          refine skip_ (w1 := ?_) (by rfl) rfl ?_ ?_
          rotate_left
          · go_simp
            rfl
          refine hK.out _ _ ?_
          clear hK K
          refine done_ (done_of HT_.out (by kernel_rfl)) ?_
          go_wp2
          generalize w18.setCell ⟨w2.heap.size + 1 + 1, 0, none⟩ (.slice Ao XS.length co) = wq at I3 ⊢
          generalize (Value.slice Ao XS.length co) = v0 at I3 ⊢
          clear q7 q5 hs hfs hHeld HT_ HW_
          have I0 := I3
          clear I3
          refine start_ (n := 10) (S := fun w' => w'.cell? ⟨(w2.heap.size + 1 + 1), 1, none⟩ = some u1 ∧ w'.cell? ⟨(w2.heap.size + 1), 0, none⟩ = some (.slice A0 l0.length c0) ∧ w'.cell? ⟨(w2.heap.size + 1), 1, none⟩ = some (.int .i64 thr) ∧ w'.cell? ⟨(w2.heap.size + 1), 2, none⟩ = some (.bool false) ∧ w'.cell? ⟨(w2.heap.size + 1), 3, none⟩ = some (.map (some b2))) (ds := [9]) #[false, false, false, false, false, false, false, false, false, false] (by kernel_rfl) rfl rfl ⟨(blk_cell I0.out.k7 1).trans rfl, (blk_cell I0.out.k6 0).trans rfl, (blk_cell I0.out.k6 1).trans rfl, (blk_cell I0.out.k6 2).trans rfl, (blk_cell I0.out.k6 3).trans rfl⟩ (fun hHeld => ?_)
          refine with_tabW tab_of7 bits_of (fun HT_ HW_ => ?_)
          have I1 := Aside0.mk I0.out.drew
          clear I0
          generalize wq.drew = w14 at I1 hHeld ⊢
          refine pure_ (i := 0) (N := some 29) (v := ?_) (a' := ?_) #[true, false, false, false, false, false, false, false, false, false] rfl rfl (any_of HT_.out (by kernel_rfl)) (fun _ _ _ h => h) (Or.inl ⟨by rfl, ?_⟩) ?_ ?_
          rotate_left
          · intro w'
            go_simp
            with_reducible rfl
          rotate_left
          · simp only [Act.put, List.setIfInBounds_toArray, List.set_cons_zero, List.set_cons_succ, i64_w, i32_w]
            rfl
          refine pure_ (i := 3) (N := some 32) (v := ?_) (a' := ?_) #[true, false, false, true, false, false, false, false, false, false] rfl rfl (any_of HT_.out (by kernel_rfl)) (fun _ _ _ h => h) (Or.inl ⟨by rfl, ?_⟩) ?_ ?_
          rotate_left
          · intro w'
            go_simp
            with_reducible rfl
          rotate_left
          · simp only [Act.put, List.setIfInBounds_toArray, List.set_cons_zero, List.set_cons_succ, i64_w, i32_w]
            rfl
          refine pure_ (i := 4) (N := some 33) (v := ?_) (a' := ?_) #[true, false, false, true, true, false, false, false, false, false] rfl rfl (any_of HT_.out (by kernel_rfl)) (fun _ _ _ h => h) (Or.inl ⟨by rfl, ?_⟩) ?_ ?_
          rotate_left
          · intro w'
            go_simp
            with_reducible rfl
          rotate_left
          · simp only [Act.put, List.setIfInBounds_toArray, List.set_cons_zero, List.set_cons_succ, i64_w, i32_w]
            rfl
          refine take_ (i := 1) (N := some 30) (v := ?_) (a' := ?_) #[true, true, false, true, true, false, false, false, false, false] rfl rfl (take_ofW HT_.out HW_.out (by kernel_rfl)) (fun _ _ _ h => h) (Or.inl ⟨by rfl, ?_⟩) hHeld ?_ ?_
          rotate_left
          · rintro w' ⟨s0, s1, s2, s3, s4⟩
            go_simp
            with_reducible rfl
          rotate_left
          · simp only [Act.put, List.setIfInBounds_toArray, List.set_cons_zero, List.set_cons_succ, i64_w, i32_w]
            rfl
          refine take_ (i := 2) (N := some 31) (v := ?_) (a' := ?_) #[true, true, true, true, true, false, false, false, false, false] rfl rfl (take_ofW HT_.out HW_.out (by kernel_rfl)) (fun _ _ _ h => h) (Or.inl ⟨by rfl, ?_⟩) hHeld ?_ ?_
          rotate_left
          · rintro w' ⟨s0, s1, s2, s3, s4⟩
            go_simp
            with_reducible rfl
          rotate_left
          · simp only [Act.put, List.setIfInBounds_toArray, List.set_cons_zero, List.set_cons_succ, i64_w, i32_w]
            rfl
          refine one_ (i := 5) (N := some 34) #[true, true, true, true, true, true, false, false, false, false] rfl rfl (one_of HT_.out (by kernel_rfl)) (by decide) (fun K hK => ?_)
          refine goes_ Try.func28 (by kernel_rfl) rfl #[.agg #[.slice A0 l0.length c0, .int .i64 thr, .bool false, .map (some b2)], .int .i64 (wrap64 ((i : Int) + 1))] (by rfl) rfl rfl (by (try simp only [List.map_toArray, List.map_cons, List.map_nil]); first | done | rfl) ?_
          with_reducible refine (end_calls (n := n + 2001) HL.out HR.out I1.out.m2 (by have := F0.out; unfold maxLen; omega) EB.out).mono ?_
          rintro e w17 ⟨rfl, hM, hF⟩
          refine ⟨_, rfl, ?_⟩
          have I2 := Aside0.mk (I1.out.far2 hF hM (by omega))
          clear hM hF I1
          refine hK.out _ _ ⟨(blk_cell I2.out.k7 1).trans rfl, (blk_cell I2.out.k6 0).trans rfl, (blk_cell I2.out.k6 1).trans rfl, (blk_cell I2.out.k6 2).trans rfl, (blk_cell I2.out.k6 3).trans rfl⟩ (fun hHeld => ?_)
          clear hK K
          refine norm_ (a' := ?_) ?_ ?_
          rotate_left
          · show Act.put _ (some 34) _ = _
            simp only [Act.put, List.setIfInBounds_toArray, List.set_cons_zero, List.set_cons_succ, i64_w, i32_w]
            rfl
          refine one_ (i := 6) (N := some 35) #[true, true, true, true, true, true, true, false, false, false] rfl rfl (one_of HT_.out (by kernel_rfl)) (by decide) (fun K hK => ?_)
          refine value_ (w1 := ?_) (v := ?_) (by rfl) rfl ?_ ?_
          rotate_left 2
          · go_simp
            constructor
            · rfl
            · rfl
          refine hK.out _ _ ⟨(blk_cell (blk_alloc I2.out.k7 _) 1).trans rfl, (blk_cell (blk_alloc I2.out.k6 _) 0).trans rfl, (blk_cell (blk_alloc I2.out.k6 _) 1).trans rfl, (blk_cell (blk_alloc I2.out.k6 _) 2).trans rfl, (blk_cell (blk_alloc I2.out.k6 _) 3).trans rfl⟩ (fun hHeld => ?_)
          clear hK K
          refine norm_ (a' := ?_) ?_ ?_
          rotate_left
          · show Act.put _ (some 35) _ = _
            simp only [Act.put, List.setIfInBounds_toArray, List.set_cons_zero, List.set_cons_succ, i64_w, i32_w]
            rfl
          refine one_ (i := 7) (N := some 36) #[true, true, true, true, true, true, true, true, false, false] rfl rfl (one_of HT_.out (by kernel_rfl)) (by decide) (fun K hK => ?_)
          refine Kd.R_append_step (Kd.int .i64) (w0 := w) w.heap.size (by rfl) (.tmp 30) (.tmp 35) 25 3 (.int .i64 0) 8 rfl Try.underlying25 info3 rfl (by decide) (by omega) u1 ys rb [.int .i64 rb] (fun k_ => some k_ ≠ (v0 : Value).ownBlock) (fun _ => False) rfl rfl ?aP (fun _ hk => hk.elim) ?aF ?aO ?aB ?aS ?aL ?_
          (case aP => exact rfl)
          (case aB => exact I2.out.m1.below)
          (case aF => exact (fun k_ hk => Kd.fresh' (Kd.R_lt I2.out.r0) k_ hk))
          (case aO => exact I2.out.r1)
          (case aS => exact below_size I2.out.m1.below)
          (case aL => have := F0.out; omega)
          intro v w18 ho hb hg hat
          rw [← NX1.out] at ho
          have I3 := Aside0.mk (I2.out.put1 ho hb hg hat)
          have q7 := Aside0.mk (blk_grown I2.out.k7 hg (Kd.R_ne I2.out.r1 I2.out.k7 (by decide)))
          have q5 := Aside0.mk (blk_grown I2.out.k6 hg (Kd.R_ne I2.out.r1 I2.out.k6 (by decide)))
          obtain ⟨Ao, co, eo⟩ := Kd.R_slice ho
          clear hb hg hat ho I2
          refine hK.out _ _ ⟨(blk_cell q7.out 1).trans rfl, (blk_cell q5.out 0).trans rfl, (blk_cell q5.out 1).trans rfl, (blk_cell q5.out 2).trans rfl, (blk_cell q5.out 3).trans rfl⟩ (fun hHeld => ?_)
          clear hK K
          refine norm_ (a' := ?_) ?_ ?_
          rotate_left
          · show Act.put _ (some 36) _ = _
            simp only [Act.put, List.setIfInBounds_toArray, List.set_cons_zero, List.set_cons_succ, i64_w, i32_w]
            rfl
          refine pure_ (i := 8) (N := some 37) (v := ?_) (a' := ?_) #[true, true, true, true, true, true, true, true, true, false] rfl rfl (any_of HT_.out (by kernel_rfl)) (fun _ _ _ h => h) (Or.inl ⟨by rfl, ?_⟩) ?_ ?_
          rotate_left
          · intro w'
            go_simp
            with_reducible rfl
          rotate_left
          · simp only [Act.put, List.setIfInBounds_toArray, List.set_cons_zero, List.set_cons_succ, i64_w, i32_w]
            rfl
          refine last_ (i := 9) (N := none) #[true, true, true, true, true, true, true, true, true, true] rfl rfl (one_of HT_.out (by kernel_rfl)) (by decide) (fun K hK => ?_)
          have hs : w18.cell? ⟨(w2.heap.size + 1 + 1), 1, none⟩ = some u1 := (blk_cell q7.out 1).trans rfl
          have hfs := blk_frozen q7.out 1
          subst eo
          refine skip_ (w1 := ?_) (by rfl) rfl ?_ ?_
          rotate_left
          · go_simp
            rfl
          refine hK.out _ _ ?_
          clear hK K
          refine done_ (done_of HT_.out (by kernel_rfl)) ?_
          go_wp2
          go_roundg gk
          case measure => have := F0.out; omega
          case rel =>
            have f := F0.out
            have l1 : XS.length = i + 1 := by rw [NX0.out, List.length_append, List.length_singleton]; omega
            have l2 : YS.length = i + 1 := by rw [NX1.out, List.length_append, List.length_singleton]; omega
            refine ⟨i + 1, n + 2001 + 2001, XS, YS, v0, .slice Ao YS.length co, ?_, by omega, by omega, l1, l2, by omega, ⟨?_⟩, I3⟩
            · exact congrArg (Value.int _) (by unfold wrap64; omega)
            · rw [NX0.out, NX1.out, show l0.length - (i + 1) = m by omega]; exact EG.out
      · have hG := HG.out
        rw [show l0.length - i = 0 by omega] at hG
        simp only [ofGo, Option.some.injEq, Prod.mk.injEq] at hG
        obtain ⟨rfl, rfl⟩ := hG
        obtain ⟨Ao, co, eo⟩ := Kd.R_slice I0.out.r0
        subst eo
        obtain ⟨Ap, cp, ep⟩ := Kd.R_slice I0.out.r1
        subst ep
        have hnb := I0.out.g47
        have hnc := Ne.symm I0.out.g47
        have hcz0 := (blk_cell I0.out.k7 0).trans rfl
        have hcz1 := (blk_cell I0.out.k7 1).trans rfl
        have hfz0 := blk_frozen I0.out.k7 0
        have hfz1 := blk_frozen I0.out.k7 1
        have hcw0 : wr.cell? ⟨w.heap.size, 0, none⟩ = some (.slice none 0 0) := (blk_cell I0.out.k4 0).trans rfl
        have hcw1 : wr.cell? ⟨w.heap.size, 1, none⟩ = some (.slice none 0 0) := (blk_cell I0.out.k4 1).trans rfl
        have hfw0 := blk_frozen I0.out.k4 0
        have hfw1 := blk_frozen I0.out.k4 1
        clear hx hy hn hk HG lt4 lt5 hN
        go_wp2
        refine bodyPost_ret (results_cell_row rfl _ _ w.heap.size 27 #[.slice Ao xs.length co, .slice Ap ys.length cp] (0, 0) _ rfl (by refine blk_put (cs := #[.slice Ao xs.length co, .slice none 0 0]) ?_ 1 _ rfl; refine blk_put (cs := #[.slice none 0 0, .slice none 0 0]) ?_ 0 _ rfl; exact I0.out.k4) Try.underlying27 rfl (by kernel_rfl)) rfl ?_
        exact ⟨_, _, rfl, Kd.R_mono (Kd.R_far (p := ⟨w.heap.size, 1, none⟩) (Kd.R_far (p := ⟨w.heap.size, 0, none⟩) (Kd.R_types I0.out.r0 I0.out.k4 (by decide)) (fun _ hk => hk.2) (.slice Ao xs.length co)) (fun _ hk => hk.2) (.slice Ap ys.length cp)) (fun _ hk => hk.1),
          Kd.R_mono (Kd.R_far (p := ⟨w.heap.size, 1, none⟩) (Kd.R_far (p := ⟨w.heap.size, 0, none⟩) (Kd.R_types I0.out.r1 I0.out.k4 (by decide)) (fun _ hk => hk.2) (.slice Ao xs.length co)) (fun _ hk => hk.2) (.slice Ap ys.length cp)) (fun _ hk => hk.1),
          below_set (below_set I0.out.m1.below I0.out.e4) I0.out.e4⟩
  · rw [if_neg hlen] at h
    cases h
end Go.Proofs.Ytdclcdaoidbgbaa.PA
