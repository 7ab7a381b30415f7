/- By hand: the end of a side. -/
import Derived.Test.YtdclcdaoidbgbaaH2
namespace Go.Proofs.Ytdclcdaoidbgbaa.PA
open Go Go.RowKit Go.Maps Go.Proofs.YtdclcdaoidbgbaaW.PrintWords Go.Proofs.YtdclcdaoidbgbaaW.PrintLast Go.Proofs.YtdclcdaoidbgbaaW.PrintMore
set_option linter.unusedVariables false

/-- Is the effect at place i not excluded by the first kk scores. -/
def open_.f (k : Nat) (l : List S50) (thr : Int) (up : Bool) (sg kk i : Int) : Option Bool := (known.f k l thr up (wrap64 (sg * wrap64 (i - 1000)))).bind fun x => some (!decide (x ≤ kk))
theorem eg35 (args : Array Value) (w : World) : (callFunc 35 args).run Try.prog w = .ok (.enter 35 args) w := by rfl

theorem search_end {w0 W : World} {A : Option Addr} {c : Nat} {l : List S50} {thr : Int} {up : Bool} {b n k bs bg bk : Nat} {sg kk r : Int} (hl : l.length ≤ c) (hr : Kd.C k50 w0 A l.length l) (hM : Memo w0 l thr up b n W) (hn : n + 2001 < maxLen)
    (hs : bs ≠ b) (hg : bg ≠ b) (hk : bk ≠ b)
    (h0 : W.cell? ⟨bs, 0, none⟩ = some (.slice A l.length c)) (h1 : W.cell? ⟨bs, 1, none⟩ = some (.int .i64 thr)) (h2 : W.cell? ⟨bs, 2, none⟩ = some (.bool up)) (h3 : W.cell? ⟨bs, 3, none⟩ = some (.map (some b)))
    (h4 : W.cell? ⟨bg, 0, none⟩ = some (.int .i64 sg)) (h5 : W.cell? ⟨bk, 0, none⟩ = some (.int .i64 kk)) (h : srch.f (open_.f k l thr up sg kk) 16 0 2001 = some r) :
    Calls Try.prog 34 #[.int .i64 2001, .func (.func 35) #[] #[.pointer (some ⟨bs, 0, none⟩), .pointer (some ⟨bg, 0, none⟩), .pointer (some ⟨bk, 0, none⟩)]] W fun e w' => e = .returned (.int .i64 r) ∧ Memo w0 l thr up b (n + 2001) w' ∧ Far b W w' := by
  refine (search_calls 35 eg35 (n := 2001) (fun j W1 => Memo w0 l thr up b (n + j) W1 ∧ Far b W W1) (by decide) ?_ ?_ ?_ ⟨hM, Far.refl _ _⟩ h).mono (fun e w' hh => ⟨hh.1, hh.2.1, hh.2.2⟩)
  · rintro j W1 m ⟨⟨m1, m2, D, m3, m4⟩, f1⟩
    exact ⟨⟨m1, pw_below_drewN m2 m, D, own_heap m3 (by simp), m4⟩, f1.heap (by simp)⟩
  · rintro j j' W1 hj ⟨⟨m1, m2, D, m3, m4⟩, f1⟩
    exact ⟨⟨m1, m2, D, m3.mono (by omega), m4⟩, f1⟩
  · rintro j W1 i t hj hi0 hi1 ht ⟨m1, f1⟩
    obtain ⟨x, hx, hy⟩ := Option.bind_eq_some_iff.mp ht
    obtain rfl := Option.some.inj hy
    refine (closure_calls hl hr m1 (by omega) (f1.cell hs h0) (f1.cell hs h1) (f1.cell hs h2) (f1.cell hs h3) (f1.cell hg h4) (f1.cell hk h5) hx).mono ?_
    rintro e w' ⟨rfl, m2, f2⟩
    exact ⟨rfl, m2, f1.trans f2⟩

/-- The end of a side. -/
def end_.f (k : Nat) (l : List S50) (thr : Int) (up : Bool) (kk : Int) : Option Int :=
  (srch.f (open_.f k l thr up (if up = true then 1 else -1) kk) 16 0 2001).bind fun r => some (wrap64 ((if up = true then 1 else -1) * wrap64 (r - 1000)))

theorem memo_alloc {w0 W : World} {l : List S50} {thr : Int} {up : Bool} {b n : Nat} (h : Memo w0 l thr up b n W) (o : Obj) : Memo w0 l thr up b n (W.alloc o) := by
  obtain ⟨m1, m2, D, m3, m4⟩ := h
  exact ⟨m1, m2.alloc m2.size o, D, m3.alloc o, m4⟩
theorem cell_alloc {W : World} {a : Addr} {v : Value} (o : Obj) (h : W.cell? a = some v) : (W.alloc o).cell? a = some v := by
  have hlt := World.block_lt_of_cell? _ _ h
  exact (((Below.refl W.heap.size W).alloc (Nat.le_refl _) o).cell hlt).trans h
theorem box1 (W : World) (C : Array Value) (t : TypeId) {m : Nat} (hm : m = W.heap.size) (i : Nat) {v : Value} (hv : C[i]? = some v) : (W.alloc (.cells C t)).cell? ⟨m, i, none⟩ = some v := by
  rw [World.cell?_alloc_at _ _ _ _ hm]; exact hv
theorem box0 (W : World) (C : Array Value) (t : TypeId) (i : Nat) {v : Value} (hv : C[i]? = some v) : (W.alloc (.cells C t)).cell? ⟨W.heap.size, i, none⟩ = some v := box1 W C t rfl i hv

set_option maxHeartbeats 4000000 in
set_option maxRecDepth 100000 in
theorem end_calls {w0 W : World} {A : Option Addr} {c : Nat} {l : List S50} {thr : Int} {up : Bool} {b n k : Nat} {kk r : Int} (hl : l.length ≤ c) (hr : Kd.C k50 w0 A l.length l) (hM : Memo w0 l thr up b n W) (hn : n + 2001 < maxLen)
    (h : end_.f k l thr up kk = some r) :
    Calls Try.prog 28 #[.agg #[.slice A l.length c, .int .i64 thr, .bool up, .map (some b)], .int .i64 kk] W fun e W' => e = .returned (.int .i64 r) ∧ Memo w0 l thr up b (n + 2001) W' ∧ Far b W W' := by
  have hu60 := Try.underlying60
  have hu77 := Try.underlying77
  have hu3 := Try.underlying3
  have hb : b < W.heap.size := by obtain ⟨_, _, D, h3, _⟩ := hM; exact h3.lt
  obtain ⟨i, hi, h1⟩ := Option.bind_eq_some_iff.mp h
  obtain rfl := Option.some.inj h1
  have HI := Aside0.mk hi
  have HM := Aside0.mk hM
  have HR := Aside0.mk hr
  have HL := Aside0.mk hl
  clear h h1 hi hM hr hl
  cases up with
  | true =>
    go_enter Try.func28, Try.ntmps28
    have HI1 : Aside0 (srch.f (open_.f k l thr true 1 kk) 16 0 2001 = some i) := HI
    go_wp2_with (first
      | (go_at_call 34; refine (search_end HL.out HR.out (memo_alloc (memo_alloc (memo_alloc HM.out _) _) _) hn (by omega) (by omega) (by omega) (cell_alloc _ (cell_alloc _ (box0 W _ 60 0 rfl))) (cell_alloc _ (cell_alloc _ (box0 W _ 60 1 rfl))) (cell_alloc _ (cell_alloc _ (box0 W _ 60 2 rfl))) (cell_alloc _ (cell_alloc _ (box0 W _ 60 3 rfl))) (box1 _ _ 3 (by simp) 0 rfl) (cell_alloc _ (box1 _ _ 3 (by simp) 0 rfl)) HI1.out).mono ?_; rintro e1 w1 ⟨rfl, hM1, hF1⟩
         have k4 : w1.cell? ⟨W.heap.size + 1 + 1, 0, none⟩ = some (.int .i64 (1)) := hF1.cell (by simp; omega) (box1 _ _ 3 (by simp) 0 rfl))
      | go_in)
    go_ret
    exact ⟨rfl, hM1, (((Far.alloc b W _).trans (Far.alloc b _ _)).trans (Far.alloc b _ _)).trans hF1⟩
  | false =>
    go_enter Try.func28, Try.ntmps28
    have HI1 : Aside0 (srch.f (open_.f k l thr false (-1) kk) 16 0 2001 = some i) := HI
    go_wp2_with (first
      | (go_at_call 34; refine (search_end HL.out HR.out (memo_alloc (memo_alloc (memo_alloc HM.out _) _) _) hn (by omega) (by omega) (by omega) (cell_alloc _ (cell_alloc _ (box0 W _ 60 0 rfl))) (cell_alloc _ (cell_alloc _ (box0 W _ 60 1 rfl))) (cell_alloc _ (cell_alloc _ (box0 W _ 60 2 rfl))) (cell_alloc _ (cell_alloc _ (box0 W _ 60 3 rfl))) (box1 _ _ 3 (by simp) 0 rfl) (cell_alloc _ (box1 _ _ 3 (by simp) 0 rfl)) HI1.out).mono ?_; rintro e1 w1 ⟨rfl, hM1, hF1⟩
         have k4 : w1.cell? ⟨W.heap.size + 1 + 1, 0, none⟩ = some (.int .i64 ((-1))) := hF1.cell (by simp; omega) (box1 _ _ 3 (by simp) 0 rfl))
      | go_in)
    go_ret
    exact ⟨rfl, hM1, (((Far.alloc b W _).trans (Far.alloc b _ _)).trans (Far.alloc b _ _)).trans hF1⟩
end Go.Proofs.Ytdclcdaoidbgbaa.PA
