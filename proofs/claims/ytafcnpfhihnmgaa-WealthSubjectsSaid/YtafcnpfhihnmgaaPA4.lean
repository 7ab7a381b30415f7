-- Written by a program of this seat's session (wip/tools/ownprint.py, over the kit's printer) out of the translation: functions and their contracts.
import Derived.Test.YtafcnpfhihnmgaaPA0
namespace Go.Proofs.Ytafcnpfhihnmgaa.PA
open Go.RowKit Go.Proofs.YtafcnpfhihnmgaaW.PrintWords Go.Proofs.YtafcnpfhihnmgaaW.PrintLast Go.Proofs.YtafcnpfhihnmgaaW.PrintMore
attribute [local go_sem] max2_int min2_int max_two min_two max_three min_three max_four min_four   -- for this text's walks alone
set_option linter.unusedVariables false
set_option linter.unusedSimpArgs false

/-- A state of type 66 at block g of W; what its slices lead to came in by w0. -/
def IsS66 (w0 W : World) (g : Nat) (f0 : List Int) (f1 : Int) : Prop := ∃ A0 c0, W.heap[g]? = some (.cells #[.slice A0 f0.length c0, .int .i64 f1] 66 (0, 0)) ∧ w0.heap.size ≤ g ∧ Kd.C (Kd.int .u8) w0 A0 f0.length f0
theorem IsS66.grown {w0 W : World} {g : Nat} {f0 : List Int} {f1 : Int} {W1 : World} {row : Option Nat} (h : IsS66 w0 W g f0 f1) (hw : W.grownBy W1 row) (hne : some g ≠ row) : IsS66 w0 W1 g f0 f1 := by
  obtain ⟨A0, c0, hb, hg, hr0⟩ := h
  exact ⟨A0, c0, blk_grown hb hw hne, hg, hr0⟩
theorem IsS66.own_neN {w0 W : World} {g : Nat} {f0 : List Int} {f1 : Int} {α : Type} {d : Kd α} {e : Nat} {base : Nat} {ok : Nat → Prop} {v : Value} {xs : List α} (h : IsS66 w0 W g f0 f1) (ho : Kd.N d e W base ok v xs) (ht : e ≠ 66) : some g ≠ v.ownBlock := by
  obtain ⟨A0, c0, hb, hg, hr0⟩ := h
  exact Kd.N_ne ho hb ht
theorem IsS66.fresh {w0 W : World} {g : Nat} {f0 : List Int} {f1 : Int} (h : IsS66 w0 W g f0 f1) : ∀ k, W.heap.size ≤ k → k ≠ g := by
  obtain ⟨A0, c0, hb, hg, hr0⟩ := h
  exact Kd.freshB hb
theorem IsS66.kept {w0 W : World} {g : Nat} {f0 : List Int} {f1 : Int} {W1 : World} {S : Nat → Prop} (h : IsS66 w0 W g f0 f1) (hk : Kept W W1 S) (hne : ¬ S g) : IsS66 w0 W1 g f0 f1 := by
  obtain ⟨A0, c0, hb, hg, hr0⟩ := h
  exact ⟨A0, c0, blk_kept hb hk hne, hg, hr0⟩
theorem IsS66.below {w0 W : World} {g : Nat} {f0 : List Int} {f1 : Int} {W1 : World} (h : IsS66 w0 W g f0 f1) (hw : Below W.heap.size W W1) : IsS66 w0 W1 g f0 f1 := h.grown (grown_of_below hw none) (by simp)
theorem IsS66.alloc {w0 W : World} {g : Nat} {f0 : List Int} {f1 : Int} (h : IsS66 w0 W g f0 f1) (o : Obj) : IsS66 w0 (W.alloc o) g f0 f1 := h.below (below_alloc (Below.refl _ _) o)
theorem IsS66.drewN {w0 W : World} {g : Nat} {f0 : List Int} {f1 : Int} (h : IsS66 w0 W g f0 f1) (m : Nat) : IsS66 w0 (W.drewN m) g f0 f1 := h
theorem IsS66.drew {w0 W : World} {g : Nat} {f0 : List Int} {f1 : Int} (h : IsS66 w0 W g f0 f1) : IsS66 w0 W.drew g f0 f1 := h
theorem IsS66.at_ {w0 W : World} {g : Nat} {f0 : List Int} {f1 : Int} {w' : World} {m : Nat} (hq : W.drewN m = w') (h : IsS66 w0 W g f0 f1) : IsS66 w0 w' g f0 f1 := by subst hq; exact IsS66.drewN h m
theorem IsS66.apart {w0 W : World} {g : Nat} {f0 : List Int} {f1 : Int} {α : Type} {d : Kd α} {e : Nat} {base : Nat} {ok : Nat → Prop} {v : Value} {xs : List α} (h : IsS66 w0 W g f0 f1) (ho : d.R e W base ok v xs) (ht : ∀ q, q ∈ e :: d.E → q ≠ 66) : d.R e W base (fun k => ok k ∧ k ≠ g) v xs := by
  obtain ⟨A0, c0, hb, hg, hr0⟩ := h
  exact Kd.R_types ho hb ht
theorem IsS66.own_ne {w0 W : World} {g : Nat} {f0 : List Int} {f1 : Int} {α : Type} {d : Kd α} {e : Nat} {base : Nat} {ok : Nat → Prop} {v : Value} {xs : List α} (h : IsS66 w0 W g f0 f1) (ho : d.R e W base ok v xs) (ht : e ≠ 66) : some g ≠ v.ownBlock := by
  obtain ⟨A0, c0, hb, hg, hr0⟩ := h
  exact Kd.R_ne ho hb ht
theorem IsS66.apartQ {w0 W : World} {g : Nat} {f0 : List Int} {f1 : Int} {α : Type} {d : Kd α} {e : Nat} {base : Nat} {ok : Nat → Prop} {v : Value} {xs : List α} (h : IsS66 w0 W g f0 f1) (ho : d.Q e W base ok v xs) (ht : ∀ q, q ∈ e :: d.E → q ≠ 66) : d.Q e W base (fun k => ok k ∧ k ≠ g) v xs := by
  obtain ⟨A0, c0, hb, hg, hr0⟩ := h
  exact Kd.Q_types ho hb ht
theorem IsS66.own_neQ {w0 W : World} {g : Nat} {f0 : List Int} {f1 : Int} {α : Type} {d : Kd α} {e : Nat} {base : Nat} {ok : Nat → Prop} {v : Value} {xs : List α} (h : IsS66 w0 W g f0 f1) (ho : d.Q e W base ok v xs) (ht : e ≠ 66) : some g ≠ v.ownBlock := by
  obtain ⟨A0, c0, hb, hg, hr0⟩ := h
  exact Kd.Q_ne ho hb ht
theorem IsS66.apartS {w0 W : World} {g : Nat} {f0 : List Int} {f1 : Int} {α : Type} {d : Kd α} {e : Nat} {base : Nat} {ok : Nat → Prop} {v : Value} {xs : List α} (h : IsS66 w0 W g f0 f1) (ho : d.S e W base ok v xs) (ht : ∀ q, q ∈ e :: d.E → q ≠ 66) : d.S e W base (fun k => ok k ∧ k ≠ g) v xs := by
  obtain ⟨A0, c0, hb, hg, hr0⟩ := h
  exact Kd.S_types ho hb ht
theorem IsS66.own_neS {w0 W : World} {g : Nat} {f0 : List Int} {f1 : Int} {α : Type} {d : Kd α} {e : Nat} {base : Nat} {ok : Nat → Prop} {v : Value} {xs : List α} (h : IsS66 w0 W g f0 f1) (ho : d.S e W base ok v xs) (ht : e ≠ 66) : some g ≠ v.ownBlock := by
  obtain ⟨A0, c0, hb, hg, hr0⟩ := h
  exact Kd.S_ne ho hb ht
theorem IsS66.lt {w0 W : World} {g : Nat} {f0 : List Int} {f1 : Int} (h : IsS66 w0 W g f0 f1) : g < W.heap.size := by
  obtain ⟨A0, c0, hb, hg, hr0⟩ := h
  exact blk_lt hb
theorem IsS66.ge {w0 W : World} {g : Nat} {f0 : List Int} {f1 : Int} (h : IsS66 w0 W g f0 f1) : w0.heap.size ≤ g := by
  obtain ⟨A0, c0, hb, hg, hr0⟩ := h
  exact hg
theorem IsS66.ne_blk {w0 W : World} {g : Nat} {f0 : List Int} {f1 : Int} {a : Nat} {cs : Array Value} {t : TypeId} {fr : Nat × Nat} (h : IsS66 w0 W g f0 f1) (hb2 : W.heap[a]? = some (.cells cs t fr)) (ht : t ≠ 66) : g ≠ a := by
  obtain ⟨A0, c0, hb, hg, hr0⟩ := h
  rintro rfl
  rw [hb] at hb2
  injection hb2 with hb2
  injection hb2 with _ ht2
  exact ht ht2.symm
theorem IsS66.far {w0 W : World} {g : Nat} {f0 : List Int} {f1 : Int} {p : Addr} (h : IsS66 w0 W g f0 f1) (hne : g ≠ p.block) (u : Value) : IsS66 w0 (W.setCell p u) g f0 f1 := by
  obtain ⟨A0, c0, hb, hg, hr0⟩ := h
  exact ⟨A0, c0, blk_far hb hne u, hg, hr0⟩
theorem cellS66_0 {W : World} {g : Nat} {A0 : Option Addr} {c0 : Nat} {f0 : List Int} {f1 : Int} (h : W.heap[g]? = some (.cells #[.slice A0 f0.length c0, .int .i64 f1] 66 (0, 0))) : W.cell? ⟨g, 0, none⟩ = some (.slice A0 f0.length c0) := (blk_cell h 0).trans rfl
theorem cellS66_1 {W : World} {g : Nat} {A0 : Option Addr} {c0 : Nat} {f0 : List Int} {f1 : Int} (h : W.heap[g]? = some (.cells #[.slice A0 f0.length c0, .int .i64 f1] 66 (0, 0))) : W.cell? ⟨g, 1, none⟩ = some (.int .i64 f1) := (blk_cell h 1).trans rfl
theorem IsS66.set_1 {w0 W : World} {g : Nat} {f0 : List Int} {f1 : Int} (h : IsS66 w0 W g f0 f1) (x : Int) : IsS66 w0 (W.setCell ⟨g, 1, none⟩ (.int .i64 x)) g f0 x := by
  obtain ⟨A0, c0, hb, hg, hr0⟩ := h
  exact ⟨A0, c0, by simpa using blk_set hb 1 (.int .i64 x), hg, hr0⟩
theorem IsS66.new (w0 W : World) (A0 : Option Addr) (c0 : Nat) (f0 : List Int) (f1 : Int) (hB : Below w0.heap.size w0 W) (hr0 : Kd.C (Kd.int .u8) w0 A0 f0.length f0) : IsS66 w0 (W.alloc (.cells #[.slice A0 f0.length c0, .int .i64 f1] 66)) W.heap.size f0 f1 := ⟨A0, c0, by simpa using heap_alloc_new W _, hB.size, hr0⟩

/-! ### flagstonedata_Source_More: function 30 -/
def flagstonedata_Source_More.f (s0_0 : List Int) (s0_1 : Int) : Option (Bool × Int) := some (decide (s0_1 < (s0_0.length : Int)), s0_1)
set_option maxHeartbeats 8000000 in
set_option maxRecDepth 100000 in
theorem flagstonedata_Source_More.calls (g : Nat) (s0_0 : List Int) (s0_1 : Int) (r1 : Bool) (r2 : Int) (w0 w : World) (hI : IsS66 w0 w g s0_0 s0_1) (hB : Below w0.heap.size w0 w) (h : flagstonedata_Source_More.f s0_0 s0_1 = some (r1, r2)) :
    Calls Try.prog 30 #[.pointer (some ⟨g, 0, none⟩)] w fun e w' => e = .returned (.bool r1) ∧ IsS66 w0 w' g s0_0 r2 ∧ Below w0.heap.size w0 w' ∧ KeepBut w w' g none := by
  have HI0 := Aside0.mk hI
  have HK := Aside0.mk (KeepBut.refl w g none)
  have HL := Aside0.mk hB.size
  clear hI
  have HW0 := Aside0.mk hB.size
  have HB := Aside0.mk hB
  clear hB
  have H : (some (decide (s0_1 < (s0_0.length : Int)), s0_1)) = some (r1, r2) := h
  clear h
  simp only [Option.some.injEq, Prod.mk.injEq] at H
  obtain ⟨rfl, rfl⟩ := H
  obtain ⟨ASz2_0, cSz2_0, HGz2, hgz2, HSz2_0⟩ := HI0.out
  have hcz2_0 := cellS66_0 HGz2
  have hcz2_1 := cellS66_1 HGz2
  have hfz2_1 := blk_frozen HGz2 1
  clear HGz2 hgz2
  go_enter Try.func30, Try.ntmps30
  go_wp2
  repeat (go_quiet (fail); try go_wp2)
  go_ret
  exact ⟨by first | rfl | (simp [errW_none, errW_some] <;> rfl) | (simp [*, errW_none, errW_some] <;> rfl), by repeat (first | (with_reducible first | exact HI0.out | apply IsS66.alloc | apply IsS66.drewN | apply IsS66.drew | apply IsS66.set_1) | exact HI0.out), by repeat (first | (with_reducible first | exact HB.out | apply below_alloc | apply pw_below_drewN | apply below_drew1 | refine below_set ?_ (IsS66.ge HI0.out)) | exact HB.out), by repeat (first | (with_reducible first | exact HK.out | apply KeepBut.set_ | apply keep_drewN | apply keep_drew | apply keep_alloc) | exact HK.out)⟩

/-! ### flagstonedata_Source_Next: function 31 -/
def flagstonedata_Source_Next.f (s0_0 : List Int) (s0_1 : Int) (a1 : Int) : Option (Int × Int) := if s0_1 ≥ (s0_0.length : Int) then (some (0, s0_1)) else (if 0 ≤ (wrap64 ((wrap64 (s0_1 + 1)) - 1)) then (if (wrap64 ((wrap64 (s0_1 + 1)) - 1)) < (s0_0.length : Int) then (if a1 = 0 then (none) else (some (Int.tmod (wrap64 (rd s0_0 (wrap64 ((wrap64 (s0_1 + 1)) - 1)))) a1, wrap64 (s0_1 + 1)))) else (none)) else (none))
set_option maxHeartbeats 8000000 in
set_option maxRecDepth 100000 in
theorem flagstonedata_Source_Next.calls (g : Nat) (s0_0 : List Int) (s0_1 : Int) (a1 : Int) (r1 : Int) (r2 : Int) (w0 w : World) (hI : IsS66 w0 w g s0_0 s0_1) (hB : Below w0.heap.size w0 w) (h : flagstonedata_Source_Next.f s0_0 s0_1 a1 = some (r1, r2)) :
    Calls Try.prog 31 #[.pointer (some ⟨g, 0, none⟩), .int .i64 a1] w fun e w' => e = .returned (.int .i64 r1) ∧ IsS66 w0 w' g s0_0 r2 ∧ Below w0.heap.size w0 w' ∧ KeepBut w w' g none := by
  have HI0 := Aside0.mk hI
  have HK := Aside0.mk (KeepBut.refl w g none)
  have HL := Aside0.mk hB.size
  clear hI
  have HW0 := Aside0.mk hB.size
  have HB := Aside0.mk hB
  clear hB
  have H : (if s0_1 ≥ (s0_0.length : Int) then (some (0, s0_1)) else (if 0 ≤ (wrap64 ((wrap64 (s0_1 + 1)) - 1)) then (if (wrap64 ((wrap64 (s0_1 + 1)) - 1)) < (s0_0.length : Int) then (if a1 = 0 then (none) else (some (Int.tmod (wrap64 (rd s0_0 (wrap64 ((wrap64 (s0_1 + 1)) - 1)))) a1, wrap64 (s0_1 + 1)))) else (none)) else (none))) = some (r1, r2) := h
  clear h
  by_cases c3 : s0_1 ≥ (s0_0.length : Int)
  · rw [if_pos c3] at H
    have c3b0 : decide ((s0_0.length : Int) ≤ s0_1) = true := decide_eq_true c3
    clear c3
    simp only [Option.some.injEq, Prod.mk.injEq] at H
    obtain ⟨rfl, rfl⟩ := H
    obtain ⟨ASz4_0, cSz4_0, HGz4, hgz4, HSz4_0⟩ := HI0.out
    have hcz4_0 := cellS66_0 HGz4
    have hcz4_1 := cellS66_1 HGz4
    have hfz4_1 := blk_frozen HGz4 1
    clear HGz4 hgz4
    go_enter Try.func31, Try.ntmps31
    go_wp2
    repeat (go_quiet (fail); try go_wp2)
    go_ret
    exact ⟨by first | rfl | (simp [errW_none, errW_some] <;> rfl) | (simp [*, errW_none, errW_some] <;> rfl), by repeat (first | (with_reducible first | exact HI0.out | apply IsS66.alloc | apply IsS66.drewN | apply IsS66.drew | apply IsS66.set_1) | exact HI0.out), by repeat (first | (with_reducible first | exact HB.out | apply below_alloc | apply pw_below_drewN | apply below_drew1 | refine below_set ?_ (IsS66.ge HI0.out)) | exact HB.out), by repeat (first | (with_reducible first | exact HK.out | apply KeepBut.set_ | apply keep_drewN | apply keep_drew | apply keep_alloc) | exact HK.out)⟩
  · rw [if_neg c3] at H
    have c3b0 : decide ((s0_0.length : Int) ≤ s0_1) = false := decide_eq_false c3
    clear c3
    obtain ⟨ji5, hji5⟩ : ∃ j_ : Int, (wrap64 ((wrap64 (s0_1 + 1)) - 1)) = j_ := ⟨_, rfl⟩
    replace H : (if 0 ≤ (ji5) then (if (ji5) < (s0_0.length : Int) then (if a1 = 0 then (none) else (some (Int.tmod (wrap64 (rd s0_0 (ji5))) a1, wrap64 (s0_1 + 1)))) else (none)) else (none)) = some (r1, r2) := by first | (rw [hji5] at H; exact H) | (simp only [hji5] at H ⊢; exact H)
    have hji5w : (IntKind.i64.wrap ((wrap64 (s0_1 + 1)) - 1)) = ji5 := (i64_w _).trans hji5
    by_cases c6 : 0 ≤ (ji5)
    · rw [if_pos c6] at H
      have c6b0 : decide (0 ≤ (ji5)) = true := decide_eq_true c6
      clear c6
      by_cases c7 : (ji5) < (s0_0.length : Int)
      · rw [if_pos c7] at H
        have c7b0 : decide ((ji5) < (s0_0.length : Int)) = true := decide_eq_true c7
        clear c7
        by_cases c8 : a1 = 0
        · rw [if_pos c8] at H
          exact absurd H (by simp)
        · rw [if_neg c8] at H
          have c8b0 : (a1 == 0) = false := beq_eq_false_iff_ne.mpr c8
          have c8b1 : (a1 != 0) = true := bne_iff_ne.mpr c8
          simp only [Option.some.injEq, Prod.mk.injEq] at H
          obtain ⟨rfl, rfl⟩ := H
          obtain ⟨ASz9_0, cSz9_0, HGz9, hgz9, HSz9_0⟩ := HI0.out
          have hcz9_0 := cellS66_0 HGz9
          have hcz9_1 := cellS66_1 HGz9
          have hfz9_1 := blk_frozen HGz9 1
          clear HGz9 hgz9
          have p127 : 0 ≤ ((ji5) : Int) := of_decide_eq_true (by first | (with_reducible assumption) | assumption)
          have q127 : (ji5) < (s0_0.length : Int) := of_decide_eq_true (by first | (with_reducible assumption) | assumption)
          obtain ⟨ad127, e127, hx127_0⟩ := Kd.at_int HSz9_0 (ji5) p127 q127
          cases e127
          have hn127_0 : ad127.block ≠ g := Nat.ne_of_lt (Nat.lt_of_lt_of_le (by have := World.block_lt_of_cell? _ _ hx127_0; first | rwa [add_block] at this | exact this) (IsS66.ge HI0.out))
          replace hx127_0 := pw_cell_below HB.out hx127_0
          replace hx127_0 := (cell_far (p := ⟨g, 1, none⟩) (by first | (rw [add_block]; exact hn127_0) | (show (Addr.add _ _).block ≠ _; rw [add_block]; exact hn127_0) | exact hn127_0) (.int .i64 (wrap64 (s0_1 + 1)))).trans hx127_0
          (try have hy127_0 := fun (n_ : Nat) => (show (((w.drewN n_).setCell ⟨g, 1, none⟩ (.int .i64 (wrap64 (s0_1 + 1))))).cell? _ = some _ from hx127_0))
          clear hn127_0
          replace p127 := eq_true p127
          replace q127 := eq_true q127
          go_enter Try.func31, Try.ntmps31
          go_wp2
          repeat (go_quiet (fail); try go_wp2)
          go_ret
          exact ⟨by first | rfl | (simp [errW_none, errW_some] <;> rfl) | (simp only [← hji5]; first | rfl | (simp [errW_none, errW_some] <;> rfl)) | (simp [*, errW_none, errW_some] <;> rfl), by repeat (first | (with_reducible first | exact HI0.out | apply IsS66.alloc | apply IsS66.drewN | apply IsS66.drew | apply IsS66.set_1) | exact HI0.out), by repeat (first | (with_reducible first | exact HB.out | apply below_alloc | apply pw_below_drewN | apply below_drew1 | refine below_set ?_ (IsS66.ge HI0.out)) | exact HB.out), by repeat (first | (with_reducible first | exact HK.out | apply KeepBut.set_ | apply keep_drewN | apply keep_drew | apply keep_alloc) | exact HK.out)⟩
      · rw [if_neg c7] at H
        exact absurd H (by simp)
    · rw [if_neg c6] at H
      exact absurd H (by simp)

/-! ### flagstonedata_Ids: function 38 -/
def flagstonedata_Ids.f  : Option (List ByteArray) := some (([(⟨#[97, 110, 110]⟩ : ByteArray), (⟨#[98, 111, 98]⟩ : ByteArray), (⟨#[99, 97, 116]⟩ : ByteArray), (⟨#[100, 97, 110]⟩ : ByteArray), (⟨#[101, 118, 101]⟩ : ByteArray), (⟨#[102, 97, 121]⟩ : ByteArray)] : List ByteArray))
set_option maxHeartbeats 8000000 in
set_option maxRecDepth 100000 in
theorem flagstonedata_Ids.calls  (r : List ByteArray) (w : World) (h : flagstonedata_Ids.f  = some r) :
    Calls Try.prog 38 #[] w fun e w' => ∃ v0_ : Value, e = .returned (v0_) ∧ Kd.R Kd.string 9 w' w.heap.size (fun _ => True) v0_ r ∧ Below w.heap.size w w' := by
  have HB := Aside0.mk (Below.refl w.heap.size w)
  have H : (some (([(⟨#[97, 110, 110]⟩ : ByteArray), (⟨#[98, 111, 98]⟩ : ByteArray), (⟨#[99, 97, 116]⟩ : ByteArray), (⟨#[100, 97, 110]⟩ : ByteArray), (⟨#[101, 118, 101]⟩ : ByteArray), (⟨#[102, 97, 121]⟩ : ByteArray)] : List ByteArray))) = some r := h
  clear h
  obtain ⟨y128, hy128⟩ : ∃ y_ : List ByteArray, y_ = (([(⟨#[97, 110, 110]⟩ : ByteArray), (⟨#[98, 111, 98]⟩ : ByteArray), (⟨#[99, 97, 116]⟩ : ByteArray), (⟨#[100, 97, 110]⟩ : ByteArray), (⟨#[101, 118, 101]⟩ : ByteArray), (⟨#[102, 97, 121]⟩ : ByteArray)] : List ByteArray)) := ⟨_, rfl⟩
  replace H : (some y128) = some r := by first | (rw [hy128]; with_reducible exact H) | (have H2_ := (Option.bind_some _ _).symm.trans H; rw [hy128]; with_reducible exact H2_) | (have H2_ := (Option.bind_some _ _).symm.trans H; with_reducible exact H2_) | with_reducible exact H | (rw [hy128]; exact H) | exact H
  have Ny128 := Aside0.mk hy128
  clear hy128
  obtain rfl := Option.some.inj H
  go_enter Try.func38, Try.ntmps38
  go_wp2_with (first | ((with_reducible refine gate_dst (N := 1) rfl ?_); refine Kd.R_lit Kd.string _ 9 ?hg (N := 1) ?hd (xs := ([(⟨#[97, 110, 110]⟩ : ByteArray), (⟨#[98, 111, 98]⟩ : ByteArray), (⟨#[99, 97, 116]⟩ : ByteArray), (⟨#[100, 97, 110]⟩ : ByteArray), (⟨#[101, 118, 101]⟩ : ByteArray), (⟨#[102, 97, 121]⟩ : ByteArray)] : List ByteArray)) (inner := [.string (⟨#[97, 110, 110]⟩ : ByteArray), .string (⟨#[98, 111, 98]⟩ : ByteArray), .string (⟨#[99, 97, 116]⟩ : ByteArray), .string (⟨#[100, 97, 110]⟩ : ByteArray), .string (⟨#[101, 118, 101]⟩ : ByteArray), .string (⟨#[102, 97, 121]⟩ : ByteArray)]) (ok := fun _ => True) (okp := fun _ => True) ?hr ?hp (fun _ hk => hk) trivial (Below.refl _ _) (Nat.le_refl _) (by simp) ?_; (case hd => rfl); (case hg => rfl); (case hr => first | (go_simp; done) | (go_simp; rfl)); (case hp => exact (Reps.one (show Kd.M Kd.string _ _ _ (⟨#[97, 110, 110]⟩ : ByteArray) [.string (⟨#[97, 110, 110]⟩ : ByteArray)] from rfl) (Reps.one (show Kd.M Kd.string _ _ _ (⟨#[98, 111, 98]⟩ : ByteArray) [.string (⟨#[98, 111, 98]⟩ : ByteArray)] from rfl) (Reps.one (show Kd.M Kd.string _ _ _ (⟨#[99, 97, 116]⟩ : ByteArray) [.string (⟨#[99, 97, 116]⟩ : ByteArray)] from rfl) (Reps.one (show Kd.M Kd.string _ _ _ (⟨#[100, 97, 110]⟩ : ByteArray) [.string (⟨#[100, 97, 110]⟩ : ByteArray)] from rfl) (Reps.one (show Kd.M Kd.string _ _ _ (⟨#[101, 118, 101]⟩ : ByteArray) [.string (⟨#[101, 118, 101]⟩ : ByteArray)] from rfl) (Reps.one (show Kd.M Kd.string _ _ _ (⟨#[102, 97, 121]⟩ : ByteArray) [.string (⟨#[102, 97, 121]⟩ : ByteArray)] from rfl) (Reps.none _ _)))))))); intro v129 w1 ho2 hb hg_ hnew_; clear hg_ hnew_; (first | rw [← Ny128.out] at ho2 | (simp only [Int.reduceToNat] at ho2; rw [← Ny128.out] at ho2)); have n0_ := Aside0.mk (Kd.R_lower ho2 (below_size (by repeat (first | (with_reducible first | exact HB.out | apply below_alloc | apply pw_below_drewN | apply below_drew1) | exact HB.out)))); have n1_ := Aside0.mk (below_step (by repeat (first | (with_reducible first | exact HB.out | apply below_alloc | apply pw_below_drewN | apply below_drew1) | exact HB.out)) hb); clear HB; have HO130 := n0_; have HB := n1_; clear n0_ n1_; clear hb ho2))
  go_ret
  exact ⟨_, by first | rfl | (simp [errW_none, errW_some] <;> rfl) | (simp [*, errW_none, errW_some] <;> rfl), by (with_reducible repeat (first | apply Kd.R_alloc | apply Kd.R_drewN | apply Kd.R_drew)); exact HO130.out, by repeat (first | (with_reducible first | exact HB.out | apply below_alloc | apply pw_below_drewN | apply below_drew1) | exact HB.out)⟩

/-! ### flagstonedata_Id: function 32 -/
def flagstonedata_Id.f (a0 : Int) : Option (ByteArray) := (flagstonedata_Ids.f).bind fun t131 => ((flagstonedata_Ids.f).bind fun t134 => (if (t134.length : Int) = 0 then (none) else (if 0 ≤ (Int.tmod a0 (t134.length : Int)) then (if (Int.tmod a0 (t134.length : Int)) < (t131.length : Int) then (some (rdOf ByteArray.empty t131 (Int.tmod a0 (t134.length : Int)))) else (none)) else (none))))
set_option maxHeartbeats 8000000 in
set_option maxRecDepth 100000 in
theorem flagstonedata_Id.calls (a0 : Int) (r : ByteArray) (w : World) (h : flagstonedata_Id.f a0 = some r) :
    Calls Try.prog 32 #[.int .i64 a0] w fun e w' => e = .returned (.string r) ∧ Below w.heap.size w w' := by
  have HB := Aside0.mk (Below.refl w.heap.size w)
  have H : ((flagstonedata_Ids.f).bind fun t131 => ((flagstonedata_Ids.f).bind fun t134 => (if (t134.length : Int) = 0 then (none) else (if 0 ≤ (Int.tmod a0 (t134.length : Int)) then (if (Int.tmod a0 (t134.length : Int)) < (t131.length : Int) then (some (rdOf ByteArray.empty t131 (Int.tmod a0 (t134.length : Int)))) else (none)) else (none))))) = some r := h
  clear h
  replace H := Option.bind_eq_some_iff.mp H
  obtain ⟨t131, A20, H⟩ := H
  replace H : ((flagstonedata_Ids.f).bind fun t134 => (if (t134.length : Int) = 0 then (none) else (if 0 ≤ (Int.tmod a0 (t134.length : Int)) then (if (Int.tmod a0 (t134.length : Int)) < (t131.length : Int) then (some (rdOf ByteArray.empty t131 (Int.tmod a0 (t134.length : Int)))) else (none)) else (none)))) = some r := H
  have A2 := Aside0.mk A20
  clear A20
  replace H := Option.bind_eq_some_iff.mp H
  obtain ⟨t134, A30, H⟩ := H
  replace H : (if (t134.length : Int) = 0 then (none) else (if 0 ≤ (Int.tmod a0 (t134.length : Int)) then (if (Int.tmod a0 (t134.length : Int)) < (t131.length : Int) then (some (rdOf ByteArray.empty t131 (Int.tmod a0 (t134.length : Int)))) else (none)) else (none))) = some r := H
  have A3 := Aside0.mk A30
  clear A30
  by_cases c4 : (t134.length : Int) = 0
  · rw [if_pos c4] at H
    exact absurd H (by simp)
  · rw [if_neg c4] at H
    have c4b0 : ((t134.length : Int) == 0) = false := beq_eq_false_iff_ne.mpr c4
    have c4b1 : ((t134.length : Int) != 0) = true := bne_iff_ne.mpr c4
    have c4b2 : ¬ (t134 = []) := fun h_ => c4 (by rw [h_]; rfl)
    obtain ⟨ji5, hji5⟩ : ∃ j_ : Int, (Int.tmod a0 (t134.length : Int)) = j_ := ⟨_, rfl⟩
    replace H : (if 0 ≤ (ji5) then (if (ji5) < (t131.length : Int) then (some (rdOf ByteArray.empty t131 (ji5))) else (none)) else (none)) = some r := by first | (rw [hji5] at H; exact H) | (simp only [hji5] at H ⊢; exact H)
    (try rw [hji5] at A2)
    (try rw [hji5] at A3)
    by_cases c6 : 0 ≤ (ji5)
    · rw [if_pos c6] at H
      have c6b0 : decide (0 ≤ (ji5)) = true := decide_eq_true c6
      clear c6
      by_cases c7 : (ji5) < (t131.length : Int)
      · rw [if_pos c7] at H
        have c7b0 : decide ((ji5) < (t131.length : Int)) = true := decide_eq_true c7
        clear c7
        obtain rfl := Option.some.inj H
        go_enter Try.func32, Try.ntmps32
        go_wp2_with (first | ((with_reducible refine gate_callee (f := 38) rfl ?_); refine goesL_ (some 3) rfl rfl Try.func38 (by kernel_rfl) rfl #[] rfl (by (try simp only [List.map_toArray, List.map_cons, List.map_nil]); first | done | rfl | (simp only [List.length_drop, List.length_take]; rfl)) ?_; (with_reducible refine (flagstonedata_Ids.calls  t131 _ A2.out).mono ?_); rintro e w8 ⟨v132, rfl, ho0, hb⟩; refine ⟨_, rfl, ?_⟩; have n0_ := Aside0.mk (Kd.R_lower ho0 (below_size (by repeat (first | (with_reducible first | exact HB.out | apply below_alloc | apply pw_below_drewN | apply below_drew1) | exact HB.out)))); have n1_ := Aside0.mk (below_step (by repeat (first | (with_reducible first | exact HB.out | apply below_alloc | apply pw_below_drewN | apply below_drew1) | exact HB.out)) hb); clear HB; have HO133 := n0_; have HB := n1_; clear n0_ n1_; (try clear hb); (try clear hb2); (try clear hk); (try clear hi); (try clear ho0)) | ((with_reducible refine gate_callee (f := 38) rfl ?_); refine goesL_ (some 5) rfl rfl Try.func38 (by kernel_rfl) rfl #[] rfl (by (try simp only [List.map_toArray, List.map_cons, List.map_nil]); first | done | rfl | (simp only [List.length_drop, List.length_take]; rfl)) ?_; (with_reducible refine (flagstonedata_Ids.calls  t134 _ A3.out).mono ?_); rintro e w9 ⟨v135, rfl, ho0, hb⟩; refine ⟨_, rfl, ?_⟩; have n0_ := Aside0.mk (Kd.R_elder' (by (with_reducible repeat (first | apply Kd.R_alloc | apply Kd.R_drewN | apply Kd.R_drew)); exact HO133.out) (Kd.R_base ho0) hb); have n1_ := Aside0.mk (Kd.R_lower (Kd.R_new' ho0 (Kd.R_lt (by (with_reducible repeat (first | apply Kd.R_alloc | apply Kd.R_drewN | apply Kd.R_drew)); exact HO133.out))) (below_size (by repeat (first | (with_reducible first | exact HB.out | apply below_alloc | apply pw_below_drewN | apply below_drew1) | exact HB.out)))); have n2_ := Aside0.mk (below_step (by repeat (first | (with_reducible first | exact HB.out | apply below_alloc | apply pw_below_drewN | apply below_drew1) | exact HB.out)) hb); clear HO133; clear HB; have HO133 := n0_; have HO136 := n1_; have HB := n2_; clear n0_ n1_ n2_; (try clear hb); (try clear hb2); (try clear hk); (try clear hi); (try clear ho0); obtain ⟨Ao10, co10, eo10⟩ := Kd.R_slice HO136.out; subst eo10; obtain ⟨Ao11, co11, eo11⟩ := Kd.R_slice HO133.out; subst eo11; have p137 : 0 ≤ ((ji5) : Int) := of_decide_eq_true (by first | (with_reducible assumption) | assumption); have q137 : (ji5) < (t131.length : Int) := of_decide_eq_true (by first | (with_reducible assumption) | assumption); obtain ⟨ad137, e137, hx137_0⟩ := Kd.at_string (Kd.R_reads' HO133.out).2.2 (ji5) p137 q137; cases e137; replace p137 := eq_true p137; replace q137 := eq_true q137))
        go_ret
        exact ⟨by first | rfl | (simp [errW_none, errW_some] <;> rfl) | (simp only [← hji5]; first | rfl | (simp [errW_none, errW_some] <;> rfl)) | (simp [*, errW_none, errW_some] <;> rfl), by repeat (first | (with_reducible first | exact HB.out | apply below_alloc | apply pw_below_drewN | apply below_drew1) | exact HB.out)⟩
      · rw [if_neg c7] at H
        exact absurd H (by simp)
    · rw [if_neg c6] at H
      exact absurd H (by simp)

/-! ### flagstonedata_Samples: function 24 -/
mutual
def flagstonedata_Samples.l0 : Nat → Int → List (S58) → List Int → Int → Option ((List (S58)))
  | 0, _, _, _, _ => none
  | k + 1, x1, x6, x139000, x139001 => (flagstonedata_Source_More.f x139000 x139001).bind fun bt139 => (if bt139.1 = true then (flagstonedata_Samples.j1 k x1 x6 (decide ((x6.length : Int) < 40)) x139000 bt139.2) else (flagstonedata_Samples.j1 k x1 x6 false x139000 bt139.2))
def flagstonedata_Samples.j1 : Nat → Int → List (S58) → Bool → List Int → Int → Option ((List (S58)))
  | 0, _, _, _, _, _ => none
  | k + 1, x1, x6, x18, x139000, x139001 => if x18 = true then ((flagstonedata_Id.f (x6.length : Int)).bind fun t141 => ((flagstonedata_Source_Next.f x139000 x139001 2).bind fun bt142 => ((flagstonedata_Source_Next.f x139000 bt142.2 2).bind fun bt144 => ((flagstonedata_Source_Next.f x139000 bt144.2 256).bind fun bt147 => (if (wrap64 (x1 + 1)) = 0 then (none) else ((flagstonedata_Source_Next.f x139000 bt147.2 9).bind fun bt149 => ((flagstonedata_Source_Next.f x139000 bt149.2 5).bind fun bt151 => (if x6.length < 1466015503701 then (flagstonedata_Samples.l0 k x1 (x6 ++ [(⟨(⟨t141, (⟨#[97, 112, 112]⟩ : ByteArray), wrap64 ((x6.length : Int) + 1), (x6.length : Int), wrap64 (1 + bt142.1), wrap64 (1 + bt144.1)⟩ : S56), Int.tmod bt147.1 (wrap64 (x1 + 1)), bt149.1, bt151.1, false⟩ : S58)]) x139000 bt151.2) else (none))))))))) else (some x6)
end
def flagstonedata_Samples.f (k : Nat) (l0 : List Int) (a1 : Int) : Option ((List (S58))) := flagstonedata_Samples.l0 k a1 ([] : List (S58)) l0 0
theorem flagstonedata_Samples.mono_l : ∀ k, (∀ y0 y1 y2 y3, LeO (flagstonedata_Samples.l0 k y0 y1 y2 y3) (flagstonedata_Samples.l0 (k + 1) y0 y1 y2 y3)) ∧ (∀ y0 y1 y2 y3 y4, LeO (flagstonedata_Samples.j1 k y0 y1 y2 y3 y4) (flagstonedata_Samples.j1 (k + 1) y0 y1 y2 y3 y4))
  | 0 => ⟨fun _ _ _ _ r h => by simp [flagstonedata_Samples.l0] at h, fun _ _ _ _ _ r h => by simp [flagstonedata_Samples.j1] at h⟩
  | k + 1 => by
    obtain ⟨ih0, ih1⟩ := flagstonedata_Samples.mono_l k
    refine ⟨?_, ?_⟩
    · intro y0 y1 y2 y3
      unfold flagstonedata_Samples.l0
      repeat' first
      | (with_reducible exact ih0 _ _ _ _)
      | (with_reducible exact ih1 _ _ _ _ _)
      | (with_reducible exact LeO.refl _)
      | (with_reducible exact LeO.none _)
      | (with_reducible refine LeO.ite ?_ ?_)
      | (with_reducible refine LeO.bind ?_ (fun _ => ?_))
      | exact ih0 _ _ _ _
      | exact ih1 _ _ _ _ _
      | exact LeO.none _
      | refine LeO.ite ?_ ?_
      | refine LeO.bind ?_ (fun _ => ?_)
    · intro y0 y1 y2 y3 y4
      unfold flagstonedata_Samples.j1
      repeat' first
      | (with_reducible exact ih0 _ _ _ _)
      | (with_reducible exact ih1 _ _ _ _ _)
      | (with_reducible exact LeO.refl _)
      | (with_reducible exact LeO.none _)
      | (with_reducible refine LeO.ite ?_ ?_)
      | (with_reducible refine LeO.bind ?_ (fun _ => ?_))
      | exact ih0 _ _ _ _
      | exact ih1 _ _ _ _ _
      | exact LeO.none _
      | refine LeO.ite ?_ ?_
      | refine LeO.bind ?_ (fun _ => ?_)
theorem flagstonedata_Samples.mono : ∀ a0 a1 k, LeO (flagstonedata_Samples.f k a0 a1) (flagstonedata_Samples.f (k + 1) a0 a1) := by
  intro a0 a1 k
  obtain ⟨ih0, ih1⟩ := flagstonedata_Samples.mono_l k
  unfold flagstonedata_Samples.f
  repeat' first
      | (with_reducible exact ih0 _ _ _ _)
      | (with_reducible exact ih1 _ _ _ _ _)
      | (with_reducible exact LeO.refl _)
      | (with_reducible exact LeO.none _)
      | (with_reducible refine LeO.ite ?_ ?_)
      | (with_reducible refine LeO.bind ?_ (fun _ => ?_))
      | exact ih0 _ _ _ _
      | exact ih1 _ _ _ _ _
      | exact LeO.none _
      | refine LeO.ite ?_ ?_
      | refine LeO.bind ?_ (fun _ => ?_)
def flagstonedata_Samples.T6 : Bool × List (List Nat × List Nat) := (true, [([], []), ([], []), ([], []), ([2], [2]), ([], []), ([4], [4]), ([3, 5], [3, 5]), ([], []), ([7, 3], [7]), ([], []), ([9, 8], [9]), ([1, 6, 8, 10], [1, 6, 8, 10]), ([11], [11]), ([0, 12, 10], [0, 12]), ([13, 13, 0, 1, 2, 3, 4, 5, 6, 7, 8, 9, 10, 11, 12, 13], [0, 13])])
def flagstonedata_Samples.B6 : List Nat := [0, 0, 0, 4, 0, 16, 60, 0, 140, 0, 908, 2046, 4094, 8191, 16383]
theorem flagstonedata_Samples.tab6 : rtab .any (opsOf Try.f24 6) = flagstonedata_Samples.T6 := by kernel_rfl
theorem flagstonedata_Samples.bits6 : waitsOk flagstonedata_Samples.T6.2 flagstonedata_Samples.B6 = true := by kernel_rfl
set_option maxHeartbeats 8000000 in
set_option maxRecDepth 100000 in
theorem flagstonedata_Samples.calls (k : Nat) (A0 : Option Addr) (c0 : Nat) (l0 : List Int) (a1 : Int) (r : List (S58)) (w : World) (hr0 : Kd.C (Kd.int .u8) w A0 l0.length l0) (hc0 : l0.length ≤ c0) (h : flagstonedata_Samples.f k l0 a1 = some r) :
    Calls Try.prog 24 #[.slice A0 l0.length c0, .int .i64 a1] w fun e w' => ∃ v0_ : Value, e = .returned (v0_) ∧ Kd.R k58 58 w' w.heap.size (fun _ => True) v0_ r ∧ Below w.heap.size w w' := by
  have hu66 := Try.underlying66
  have hu56 := Try.underlying56
  have hu58 := Try.underlying58
  have HR0 := Aside0.mk hr0
  have HC0 := Aside0.mk hc0
  clear hr0 hc0
  have HB := Aside0.mk (Below.refl w.heap.size w)
  have H : (flagstonedata_Samples.l0 k a1 ([] : List (S58)) l0 0) = some r := h
  clear h
  have H' := Aside0.mk H
  clear H
  go_enter Try.func24, Try.ntmps24
  go_wp2_with (first | ((with_reducible refine gate_dst (N := 11) rfl ?_); (try (refine gate_guard (by rfl) ?_; dsimp only)); refine box_event ?hg (N := 11) ?hd (cs := #[.slice A0 l0.length c0, .int .i64 0]) (t := 66) ?hr ?_; (case hd => rfl); (case hg => rfl); (case hr => first | (go_simp; done) | (go_simp; rfl)); intro gb138 hg w3 hbox hb; have n0_ := Aside0.mk (below_step (by repeat (first | (with_reducible first | exact HB.out | apply below_alloc | apply pw_below_drewN | apply below_drew1) | exact HB.out)) hb); have n1_ := Aside0.mk ((by rw [hg]; exact (below_size (by repeat (first | (with_reducible first | exact HB.out | apply below_alloc | apply pw_below_drewN | apply below_drew1) | exact HB.out))) : w.heap.size ≤ gb138)); have n2_ := Aside0.mk ((by rw [hg]; exact (below_size (by repeat (first | (with_reducible first | exact HB.out | apply below_alloc | apply pw_below_drewN | apply below_drew1) | exact HB.out))) : w.heap.size ≤ gb138)); have n3_ := Aside0.mk ((⟨_, _, hbox, (by rw [hg]; exact (below_size (by repeat (first | (with_reducible first | exact HB.out | apply below_alloc | apply pw_below_drewN | apply below_drew1) | exact HB.out)))), HR0.out⟩ : IsS66 w w3 gb138 l0 0)); clear HB; have HB := n0_; have GW138 := n1_; have GE138 := n2_; have HI138 := n3_; clear n0_ n1_ n2_ n3_; clear hb hbox hg))
  go_loopg [6] k (fun kq v6 w' => ∃ (x6_1 : List (S58)) (x139001_1 : Int), Aside0 (flagstonedata_Samples.l0 kq a1 x6_1 l0 x139001_1 = some r) ∧ Aside0 (kq ≤ k) ∧ Aside0 (Kd.R k58 58 w' w.heap.size (fun _ => True) v6 x6_1) ∧ Aside0 (IsS66 w w' gb138 l0 x139001_1) ∧ Aside0 (Below w.heap.size w w'))
  case atStart => exact ⟨(([] : List (S58))), (0), H', ⟨Nat.le_refl _⟩, ⟨by first | exact Kd.R_nil _ _ _ _ _ | exact Kd.N_nil _ _ _ _ _ | exact Kd.V_nil _ _ _ _ _ | exact Kd.Q_nil _ _ _ _ _ | exact Kd.S_nil _ _ _ _ _⟩, ⟨by repeat (first | (with_reducible first | exact HI138.out | apply IsS66.alloc | apply IsS66.drewN | apply IsS66.drew | apply IsS66.set_1) | exact HI138.out)⟩, ⟨by repeat (first | (with_reducible first | exact HB.out | apply below_alloc | apply pw_below_drewN | apply below_drew1 | refine below_set ?_ (IsS66.ge HI138.out)) | exact HB.out)⟩⟩
  case round =>
    clear H'
    try clear c2
    try clear p2
    obtain ⟨x6_1, x139001_1, HA, HK1, HO_6, HI138, HB⟩ := hrel
    cases gk with
    | zero => exact absurd HA.out (by simp [flagstonedata_Samples.l0])
    | succ k1 =>
      have H := HA.out
      clear HA
      simp only [flagstonedata_Samples.l0] at H
      have HC4 := Aside0.mk H
      clear H
      go_upto_region 3 with (fail)
      go_cut [18] (fun v18 wc => ∃ (kq : Nat) (x18_3 : Bool) (x139001_3 : Int), v18 = .bool x18_3 ∧ Aside0 (flagstonedata_Samples.j1 kq a1 x6_1 x18_3 l0 x139001_3 = some r) ∧ Aside0 (kq ≤ k1) ∧ Aside0 (Kd.R k58 58 wc w.heap.size (fun _ => True) u6 x6_1) ∧ Aside0 (IsS66 w wc gb138 l0 x139001_3) ∧ Aside0 (Below w.heap.size w wc))
      case first =>
        have H := HC4.out
        clear HC4
        replace H := Option.bind_eq_some_iff.mp H
        obtain ⟨⟨t139, t140⟩, A50, H⟩ := H
        replace H : (if t139 = true then (flagstonedata_Samples.j1 k1 a1 x6_1 (decide ((x6_1.length : Int) < 40)) l0 t140) else (flagstonedata_Samples.j1 k1 a1 x6_1 false l0 t140)) = some r := H
        have A5 := Aside0.mk A50
        clear A50
        by_cases c6 : t139 = true
        · subst c6
          have H1 : (flagstonedata_Samples.j1 k1 a1 x6_1 (decide ((x6_1.length : Int) < 40)) l0 t140) = some r := by rw [if_pos rfl] at H; exact H
          clear H
          have H := H1
          clear H1
          have H' := Aside0.mk H
          clear H
          go_wp2_with (first | ((with_reducible refine gate_callee (f := 30) rfl ?_); refine goesL_ (some 13) rfl rfl Try.func30 (by kernel_rfl) rfl #[.pointer (some ⟨gb138, 0, none⟩)] rfl (by (try simp only [List.map_toArray, List.map_cons, List.map_nil]); first | done | rfl | (simp only [List.length_drop, List.length_take]; rfl)) ?_; (with_reducible refine (flagstonedata_Source_More.calls gb138 l0 x139001_1 true t140 w _ ?side1 ?side2 A5.out).mono ?_); (case side1 => repeat (first | (with_reducible first | exact HI138.out | apply IsS66.alloc | apply IsS66.drewN | apply IsS66.drew | apply IsS66.set_1) | exact HI138.out)); (case side2 => repeat (first | (with_reducible first | exact HB.out | apply below_alloc | apply pw_below_drewN | apply below_drew1 | refine below_set ?_ (IsS66.ge HI138.out)) | exact HB.out)); rintro e w7 ⟨rfl, hi, hb, hk⟩; refine ⟨_, rfl, ?_⟩; have n0_ := Aside0.mk (Kd.R_mono (Kd.R_keep (IsS66.apart (show IsS66 w _ gb138 l0 x139001_1 from by repeat (first | (with_reducible first | exact HI138.out | apply IsS66.alloc | apply IsS66.drewN | apply IsS66.drew | apply IsS66.set_1) | exact HI138.out)) (by (with_reducible repeat (first | apply Kd.R_alloc | apply Kd.R_drewN | apply Kd.R_drew)); exact HO_6.out) (by decide)) hk (fun _ h => h.2)) (fun _ h => h.1)); have n1_ := Aside0.mk (hb); have n2_ := Aside0.mk (hi); clear HO_6; clear HB; clear HI138; have HO_6 := n0_; have HB := n1_; have HI138 := n2_; clear n0_ n1_ n2_; (try clear hb); (try clear hb2); (try clear hk); (try clear hi); obtain ⟨Ao8, co8, eo8⟩ := Kd.R_slice HO_6.out; subst eo8))
          go_meet
          case rel => exact ⟨_, (decide ((x6_1.length : Int) < 40)), (t140), (by first | rfl | (simp; done) | (simp [*]; done) | exact congrArg (Value.int _) (by unfold wrap64; omega)), H', ⟨by have := HK1.out; first | omega | exact Nat.le_refl _⟩, ⟨by (with_reducible repeat (first | apply Kd.R_alloc | apply Kd.R_drewN | apply Kd.R_drew)); exact HO_6.out⟩, ⟨by repeat (first | (with_reducible first | exact HI138.out | apply IsS66.alloc | apply IsS66.drewN | apply IsS66.drew | apply IsS66.set_1) | exact HI138.out)⟩, ⟨by repeat (first | (with_reducible first | exact HB.out | apply below_alloc | apply pw_below_drewN | apply below_drew1 | refine below_set ?_ (IsS66.ge HI138.out)) | exact HB.out)⟩⟩
        · replace c6 := Bool.eq_false_iff.mpr c6
          subst c6
          have H1 : (flagstonedata_Samples.j1 k1 a1 x6_1 false l0 t140) = some r := by rw [if_neg (show ¬ (false = true) by decide)] at H; exact H
          clear H
          have H := H1
          clear H1
          have H' := Aside0.mk H
          clear H
          go_wp2_with (first | ((with_reducible refine gate_callee (f := 30) rfl ?_); refine goesL_ (some 13) rfl rfl Try.func30 (by kernel_rfl) rfl #[.pointer (some ⟨gb138, 0, none⟩)] rfl (by (try simp only [List.map_toArray, List.map_cons, List.map_nil]); first | done | rfl | (simp only [List.length_drop, List.length_take]; rfl)) ?_; (with_reducible refine (flagstonedata_Source_More.calls gb138 l0 x139001_1 false t140 w _ ?side1 ?side2 A5.out).mono ?_); (case side1 => repeat (first | (with_reducible first | exact HI138.out | apply IsS66.alloc | apply IsS66.drewN | apply IsS66.drew | apply IsS66.set_1) | exact HI138.out)); (case side2 => repeat (first | (with_reducible first | exact HB.out | apply below_alloc | apply pw_below_drewN | apply below_drew1 | refine below_set ?_ (IsS66.ge HI138.out)) | exact HB.out)); rintro e w9 ⟨rfl, hi, hb, hk⟩; refine ⟨_, rfl, ?_⟩; have n0_ := Aside0.mk (Kd.R_mono (Kd.R_keep (IsS66.apart (show IsS66 w _ gb138 l0 x139001_1 from by repeat (first | (with_reducible first | exact HI138.out | apply IsS66.alloc | apply IsS66.drewN | apply IsS66.drew | apply IsS66.set_1) | exact HI138.out)) (by (with_reducible repeat (first | apply Kd.R_alloc | apply Kd.R_drewN | apply Kd.R_drew)); exact HO_6.out) (by decide)) hk (fun _ h => h.2)) (fun _ h => h.1)); have n1_ := Aside0.mk (hb); have n2_ := Aside0.mk (hi); clear HO_6; clear HB; clear HI138; have HO_6 := n0_; have HB := n1_; have HI138 := n2_; clear n0_ n1_ n2_; (try clear hb); (try clear hb2); (try clear hk); (try clear hi)))
          go_meet
          case rel => exact ⟨_, (false), (t140), (by first | rfl | (simp; done) | (simp [*]; done) | exact congrArg (Value.int _) (by unfold wrap64; omega)), H', ⟨by have := HK1.out; first | omega | exact Nat.le_refl _⟩, ⟨by (with_reducible repeat (first | apply Kd.R_alloc | apply Kd.R_drewN | apply Kd.R_drew)); exact HO_6.out⟩, ⟨by repeat (first | (with_reducible first | exact HI138.out | apply IsS66.alloc | apply IsS66.drewN | apply IsS66.drew | apply IsS66.set_1) | exact HI138.out)⟩, ⟨by repeat (first | (with_reducible first | exact HB.out | apply below_alloc | apply pw_below_drewN | apply below_drew1 | refine below_set ?_ (IsS66.ge HI138.out)) | exact HB.out)⟩⟩
      case rest =>
        clear HC4
        try clear c2
        try clear p2
        try clear c3
        try clear c6
        try clear p6
        try clear p2
        obtain ⟨kq, x18_3, x139001_3, rfl, HA, HJ3, HO_6, HI138, HB⟩ := hcut
        cases kq with
        | zero => exact absurd HA.out (by simp [flagstonedata_Samples.j1])
        | succ kj3 =>
          have H := HA.out
          clear HA
          simp only [flagstonedata_Samples.j1] at H
          by_cases c10 : x18_3 = true
          · subst c10
            have H1 : ((flagstonedata_Id.f (x6_1.length : Int)).bind fun t141 => ((flagstonedata_Source_Next.f l0 x139001_3 2).bind fun bt142 => ((flagstonedata_Source_Next.f l0 bt142.2 2).bind fun bt144 => ((flagstonedata_Source_Next.f l0 bt144.2 256).bind fun bt147 => (if (wrap64 (a1 + 1)) = 0 then (none) else ((flagstonedata_Source_Next.f l0 bt147.2 9).bind fun bt149 => ((flagstonedata_Source_Next.f l0 bt149.2 5).bind fun bt151 => (if x6_1.length < 1466015503701 then (flagstonedata_Samples.l0 kj3 a1 (x6_1 ++ [(⟨(⟨t141, (⟨#[97, 112, 112]⟩ : ByteArray), wrap64 ((x6_1.length : Int) + 1), (x6_1.length : Int), wrap64 (1 + bt142.1), wrap64 (1 + bt144.1)⟩ : S56), Int.tmod bt147.1 (wrap64 (a1 + 1)), bt149.1, bt151.1, false⟩ : S58)]) l0 bt151.2) else (none))))))))) = some r := by rw [if_pos rfl] at H; exact H
            clear H
            have H := H1
            clear H1
            replace H := Option.bind_eq_some_iff.mp H
            obtain ⟨t141, A110, H⟩ := H
            replace H : ((flagstonedata_Source_Next.f l0 x139001_3 2).bind fun bt142 => ((flagstonedata_Source_Next.f l0 bt142.2 2).bind fun bt144 => ((flagstonedata_Source_Next.f l0 bt144.2 256).bind fun bt147 => (if (wrap64 (a1 + 1)) = 0 then (none) else ((flagstonedata_Source_Next.f l0 bt147.2 9).bind fun bt149 => ((flagstonedata_Source_Next.f l0 bt149.2 5).bind fun bt151 => (if x6_1.length < 1466015503701 then (flagstonedata_Samples.l0 kj3 a1 (x6_1 ++ [(⟨(⟨t141, (⟨#[97, 112, 112]⟩ : ByteArray), wrap64 ((x6_1.length : Int) + 1), (x6_1.length : Int), wrap64 (1 + bt142.1), wrap64 (1 + bt144.1)⟩ : S56), Int.tmod bt147.1 (wrap64 (a1 + 1)), bt149.1, bt151.1, false⟩ : S58)]) l0 bt151.2) else (none)))))))) = some r := H
            have A11 := Aside0.mk A110
            clear A110
            replace H := Option.bind_eq_some_iff.mp H
            obtain ⟨⟨t142, t143⟩, A120, H⟩ := H
            replace H : ((flagstonedata_Source_Next.f l0 t143 2).bind fun bt144 => ((flagstonedata_Source_Next.f l0 bt144.2 256).bind fun bt147 => (if (wrap64 (a1 + 1)) = 0 then (none) else ((flagstonedata_Source_Next.f l0 bt147.2 9).bind fun bt149 => ((flagstonedata_Source_Next.f l0 bt149.2 5).bind fun bt151 => (if x6_1.length < 1466015503701 then (flagstonedata_Samples.l0 kj3 a1 (x6_1 ++ [(⟨(⟨t141, (⟨#[97, 112, 112]⟩ : ByteArray), wrap64 ((x6_1.length : Int) + 1), (x6_1.length : Int), wrap64 (1 + t142), wrap64 (1 + bt144.1)⟩ : S56), Int.tmod bt147.1 (wrap64 (a1 + 1)), bt149.1, bt151.1, false⟩ : S58)]) l0 bt151.2) else (none))))))) = some r := H
            have A12 := Aside0.mk A120
            clear A120
            replace H := Option.bind_eq_some_iff.mp H
            obtain ⟨⟨t144, t145⟩, A130, H⟩ := H
            replace H : ((flagstonedata_Source_Next.f l0 t145 256).bind fun bt147 => (if (wrap64 (a1 + 1)) = 0 then (none) else ((flagstonedata_Source_Next.f l0 bt147.2 9).bind fun bt149 => ((flagstonedata_Source_Next.f l0 bt149.2 5).bind fun bt151 => (if x6_1.length < 1466015503701 then (flagstonedata_Samples.l0 kj3 a1 (x6_1 ++ [(⟨(⟨t141, (⟨#[97, 112, 112]⟩ : ByteArray), wrap64 ((x6_1.length : Int) + 1), (x6_1.length : Int), wrap64 (1 + t142), wrap64 (1 + t144)⟩ : S56), Int.tmod bt147.1 (wrap64 (a1 + 1)), bt149.1, bt151.1, false⟩ : S58)]) l0 bt151.2) else (none)))))) = some r := H
            have A13 := Aside0.mk A130
            clear A130
            replace H := Option.bind_eq_some_iff.mp H
            obtain ⟨⟨t147, t148⟩, A140, H⟩ := H
            replace H : (if (wrap64 (a1 + 1)) = 0 then (none) else ((flagstonedata_Source_Next.f l0 t148 9).bind fun bt149 => ((flagstonedata_Source_Next.f l0 bt149.2 5).bind fun bt151 => (if x6_1.length < 1466015503701 then (flagstonedata_Samples.l0 kj3 a1 (x6_1 ++ [(⟨(⟨t141, (⟨#[97, 112, 112]⟩ : ByteArray), wrap64 ((x6_1.length : Int) + 1), (x6_1.length : Int), wrap64 (1 + t142), wrap64 (1 + t144)⟩ : S56), Int.tmod t147 (wrap64 (a1 + 1)), bt149.1, bt151.1, false⟩ : S58)]) l0 bt151.2) else (none))))) = some r := H
            have A14 := Aside0.mk A140
            clear A140
            by_cases c15 : (wrap64 (a1 + 1)) = 0
            · rw [if_pos c15] at H
              exact absurd H (by simp)
            · rw [if_neg c15] at H
              have c15b0 : ((wrap64 (a1 + 1)) == 0) = false := beq_eq_false_iff_ne.mpr c15
              have c15b1 : ((wrap64 (a1 + 1)) != 0) = true := bne_iff_ne.mpr c15
              replace H := Option.bind_eq_some_iff.mp H
              obtain ⟨⟨t149, t150⟩, A160, H⟩ := H
              replace H : ((flagstonedata_Source_Next.f l0 t150 5).bind fun bt151 => (if x6_1.length < 1466015503701 then (flagstonedata_Samples.l0 kj3 a1 (x6_1 ++ [(⟨(⟨t141, (⟨#[97, 112, 112]⟩ : ByteArray), wrap64 ((x6_1.length : Int) + 1), (x6_1.length : Int), wrap64 (1 + t142), wrap64 (1 + t144)⟩ : S56), Int.tmod t147 (wrap64 (a1 + 1)), t149, bt151.1, false⟩ : S58)]) l0 bt151.2) else (none))) = some r := H
              have A16 := Aside0.mk A160
              clear A160
              replace H := Option.bind_eq_some_iff.mp H
              obtain ⟨⟨t151, t152⟩, A170, H⟩ := H
              replace H : (if x6_1.length < 1466015503701 then (flagstonedata_Samples.l0 kj3 a1 (x6_1 ++ [(⟨(⟨t141, (⟨#[97, 112, 112]⟩ : ByteArray), wrap64 ((x6_1.length : Int) + 1), (x6_1.length : Int), wrap64 (1 + t142), wrap64 (1 + t144)⟩ : S56), Int.tmod t147 (wrap64 (a1 + 1)), t149, t151, false⟩ : S58)]) l0 t152) else (none)) = some r := H
              have A17 := Aside0.mk A170
              clear A170
              by_cases c18 : x6_1.length < 1466015503701
              · rw [if_pos c18] at H
                have LMc18 := Aside0.mk c18
                clear c18
                obtain ⟨y153, hy153⟩ : ∃ y_ : List (S58), y_ = (x6_1 ++ [(⟨(⟨t141, (⟨#[97, 112, 112]⟩ : ByteArray), wrap64 ((x6_1.length : Int) + 1), (x6_1.length : Int), wrap64 (1 + t142), wrap64 (1 + t144)⟩ : S56), Int.tmod t147 (wrap64 (a1 + 1)), t149, t151, false⟩ : S58)]) := ⟨_, rfl⟩
                replace H : (flagstonedata_Samples.l0 kj3 a1 y153 l0 t152) = some r := by first | (rw [hy153]; with_reducible exact H) | (have H2_ := (Option.bind_some _ _).symm.trans H; rw [hy153]; with_reducible exact H2_) | (have H2_ := (Option.bind_some _ _).symm.trans H; with_reducible exact H2_) | with_reducible exact H | (rw [hy153]; exact H) | exact H
                have Ny153 := Aside0.mk hy153
                clear hy153
                have H' := Aside0.mk H
                clear H
                obtain ⟨Ao19, co19, eo19⟩ := Kd.R_slice HO_6.out
                subst eo19
                try go_wp2_with (first | ((with_reducible refine gate_callee (f := 32) rfl ?_); refine goesL_ (some 22) rfl rfl Try.func32 (by kernel_rfl) rfl #[.int .i64 (x6_1.length : Int)] rfl (by (try simp only [List.map_toArray, List.map_cons, List.map_nil]); first | done | rfl | (simp only [List.length_drop, List.length_take]; rfl)) ?_; (with_reducible refine (flagstonedata_Id.calls (x6_1.length : Int) t141 _ A11.out).mono ?_); rintro e w20 ⟨rfl, hb⟩; refine ⟨_, rfl, ?_⟩; have n0_ := Aside0.mk (Kd.R_below (by (with_reducible repeat (first | apply Kd.R_alloc | apply Kd.R_drewN | apply Kd.R_drew)); exact HO_6.out) hb); have n1_ := Aside0.mk (IsS66.below (by repeat (first | (with_reducible first | exact HI138.out | apply IsS66.alloc | apply IsS66.drewN | apply IsS66.drew | apply IsS66.set_1) | exact HI138.out)) hb); have n2_ := Aside0.mk (below_step (by repeat (first | (with_reducible first | exact HB.out | apply below_alloc | apply pw_below_drewN | apply below_drew1 | refine below_set ?_ (IsS66.ge HI138.out)) | exact HB.out)) hb); clear HO_6; clear HI138; clear HB; have HO_6 := n0_; have HI138 := n1_; have HB := n2_; clear n0_ n1_ n2_; (try clear hb); (try clear hb2); (try clear hk); (try clear hi)) | ((with_reducible refine gate_callee (f := 31) rfl ?_); refine goesL_ (some 27) rfl rfl Try.func31 (by kernel_rfl) rfl #[.pointer (some ⟨gb138, 0, none⟩), .int .i64 2] rfl (by (try simp only [List.map_toArray, List.map_cons, List.map_nil]); first | done | rfl | (simp only [List.length_drop, List.length_take]; rfl)) ?_; (with_reducible refine (flagstonedata_Source_Next.calls gb138 l0 x139001_3 2 t142 t143 w _ ?side1 ?side2 A12.out).mono ?_); (case side1 => repeat (first | (with_reducible first | exact HI138.out | apply IsS66.alloc | apply IsS66.drewN | apply IsS66.drew | apply IsS66.set_1) | exact HI138.out)); (case side2 => repeat (first | (with_reducible first | exact HB.out | apply below_alloc | apply pw_below_drewN | apply below_drew1 | refine below_set ?_ (IsS66.ge HI138.out)) | exact HB.out)); rintro e w21 ⟨rfl, hi, hb, hk⟩; refine ⟨_, rfl, ?_⟩; have n0_ := Aside0.mk (Kd.R_mono (Kd.R_keep (IsS66.apart (show IsS66 w _ gb138 l0 x139001_3 from by repeat (first | (with_reducible first | exact HI138.out | apply IsS66.alloc | apply IsS66.drewN | apply IsS66.drew | apply IsS66.set_1) | exact HI138.out)) (by (with_reducible repeat (first | apply Kd.R_alloc | apply Kd.R_drewN | apply Kd.R_drew)); exact HO_6.out) (by decide)) hk (fun _ h => h.2)) (fun _ h => h.1)); have n1_ := Aside0.mk (hb); have n2_ := Aside0.mk (hi); clear HO_6; clear HB; clear HI138; have HO_6 := n0_; have HB := n1_; have HI138 := n2_; clear n0_ n1_ n2_; (try clear hb); (try clear hb2); (try clear hk); (try clear hi)) | ((with_reducible refine gate_callee (f := 31) rfl ?_); refine goesL_ (some 30) rfl rfl Try.func31 (by kernel_rfl) rfl #[.pointer (some ⟨gb138, 0, none⟩), .int .i64 2] rfl (by (try simp only [List.map_toArray, List.map_cons, List.map_nil]); first | done | rfl | (simp only [List.length_drop, List.length_take]; rfl)) ?_; (with_reducible refine (flagstonedata_Source_Next.calls gb138 l0 t143 2 t144 t145 w _ ?side1 ?side2 A13.out).mono ?_); (case side1 => repeat (first | (with_reducible first | exact HI138.out | apply IsS66.alloc | apply IsS66.drewN | apply IsS66.drew | apply IsS66.set_1) | exact HI138.out)); (case side2 => repeat (first | (with_reducible first | exact HB.out | apply below_alloc | apply pw_below_drewN | apply below_drew1 | refine below_set ?_ (IsS66.ge HI138.out)) | exact HB.out)); rintro e w22 ⟨rfl, hi, hb, hk⟩; refine ⟨_, rfl, ?_⟩; have n0_ := Aside0.mk (Kd.R_mono (Kd.R_keep (IsS66.apart (show IsS66 w _ gb138 l0 t143 from by repeat (first | (with_reducible first | exact HI138.out | apply IsS66.alloc | apply IsS66.drewN | apply IsS66.drew | apply IsS66.set_1) | exact HI138.out)) (by (with_reducible repeat (first | apply Kd.R_alloc | apply Kd.R_drewN | apply Kd.R_drew)); exact HO_6.out) (by decide)) hk (fun _ h => h.2)) (fun _ h => h.1)); have n1_ := Aside0.mk (hb); have n2_ := Aside0.mk (hi); clear HO_6; clear HB; clear HI138; have HO_6 := n0_; have HB := n1_; have HI138 := n2_; clear n0_ n1_ n2_; (try clear hb); (try clear hb2); (try clear hk); (try clear hi)) | ((with_reducible refine gate_dst (N := 8) rfl ?_); (try (refine gate_guard (by rfl) ?_; dsimp only)); refine box_event ?hg (N := 8) ?hd (cs := #[.string (⟨#[]⟩ : ByteArray), .string (⟨#[]⟩ : ByteArray), .int .i64 0, .int .i64 0, .int .i64 0, .int .i64 0]) (t := 56) ?hr ?_; (case hd => rfl); (case hg => rfl); (case hr => first | (go_simp; done) | (go_simp; rfl)); intro gb146 hg w23 hbox hb; have n0_ := Aside0.mk (Kd.R_below (by (with_reducible repeat (first | apply Kd.R_alloc | apply Kd.R_drewN | apply Kd.R_drew)); exact HO_6.out) hb); have n1_ := Aside0.mk (IsS66.below (by repeat (first | (with_reducible first | exact HI138.out | apply IsS66.alloc | apply IsS66.drewN | apply IsS66.drew | apply IsS66.set_1) | exact HI138.out)) hb); have n2_ := Aside0.mk (below_step (by repeat (first | (with_reducible first | exact HB.out | apply below_alloc | apply pw_below_drewN | apply below_drew1 | refine below_set ?_ (IsS66.ge HI138.out)) | exact HB.out)) hb); have n3_ := Aside0.mk (hbox); have n4_ := Aside0.mk ((by rw [hg]; exact (below_size (by repeat (first | (with_reducible first | exact HB.out | apply below_alloc | apply pw_below_drewN | apply below_drew1 | refine below_set ?_ (IsS66.ge HI138.out)) | exact HB.out))) : w.heap.size ≤ gb146)); have n5_ := Aside0.mk ((by rw [hg]; exact (below_size (by repeat (first | (with_reducible first | exact HB.out | apply below_alloc | apply pw_below_drewN | apply below_drew1 | refine below_set ?_ (IsS66.ge HI138.out)) | exact HB.out))) : w.heap.size ≤ gb146)); have n6_ := Aside0.mk ((by rw [hg]; exact Nat.ne_of_lt (IsS66.lt (show IsS66 w _ gb138 l0 t145 from by repeat (first | (with_reducible first | exact HI138.out | apply IsS66.alloc | apply IsS66.drewN | apply IsS66.drew | apply IsS66.set_1) | exact HI138.out))) : gb138 ≠ gb146)); have n7_ := Aside0.mk ((by rw [hg]; exact Nat.ne_of_gt (IsS66.lt (show IsS66 w _ gb138 l0 t145 from by repeat (first | (with_reducible first | exact HI138.out | apply IsS66.alloc | apply IsS66.drewN | apply IsS66.drew | apply IsS66.set_1) | exact HI138.out))) : gb146 ≠ gb138)); clear HO_6; clear HI138; clear HB; have HO_6 := n0_; have HI138 := n1_; have HB := n2_; have BK146 := n3_; have GW146 := n4_; have GE146 := n5_; have NB138_146 := n6_; have NB146_138 := n7_; clear n0_ n1_ n2_ n3_ n4_ n5_ n6_ n7_; clear hb hbox hg; have hnb24 := NB146_138.out; have hnc24 := NB138_146.out; have hcz25_0 : w23.cell? ⟨gb146, 0, none⟩ = some (.string (⟨#[]⟩ : ByteArray)) := (blk_cell BK146.out 0).trans rfl; have hcz25_1 : w23.cell? ⟨gb146, 1, none⟩ = some (.string (⟨#[]⟩ : ByteArray)) := (blk_cell BK146.out 1).trans rfl; have hcz25_2 : w23.cell? ⟨gb146, 2, none⟩ = some (.int .i64 0) := (blk_cell BK146.out 2).trans rfl; have hcz25_3 : w23.cell? ⟨gb146, 3, none⟩ = some (.int .i64 0) := (blk_cell BK146.out 3).trans rfl; have hcz25_4 : w23.cell? ⟨gb146, 4, none⟩ = some (.int .i64 0) := (blk_cell BK146.out 4).trans rfl; have hcz25_5 : w23.cell? ⟨gb146, 5, none⟩ = some (.int .i64 0) := (blk_cell BK146.out 5).trans rfl; have hfz25_0 := blk_frozen BK146.out 0; have hfz25_1 := blk_frozen BK146.out 1; have hfz25_2 := blk_frozen BK146.out 2; have hfz25_3 := blk_frozen BK146.out 3; have hfz25_4 := blk_frozen BK146.out 4; have hfz25_5 := blk_frozen BK146.out 5))
                have n0_ : Aside0 (Kd.R k58 58 ((((((w23.setCell ⟨gb146, 0, none⟩ (.string t141)).setCell ⟨gb146, 1, none⟩ (.string (⟨#[97, 112, 112]⟩ : ByteArray))).setCell ⟨gb146, 2, none⟩ (.int .i64 (wrap64 ((x6_1.length : Int) + 1)))).setCell ⟨gb146, 3, none⟩ (.int .i64 (x6_1.length : Int))).setCell ⟨gb146, 4, none⟩ (.int .i64 (wrap64 (1 + t142)))).setCell ⟨gb146, 5, none⟩ (.int .i64 (wrap64 (1 + t144)))) w.heap.size (fun _ => True) (.slice Ao19 x6_1.length co19) x6_1) := ⟨by (with_reducible repeat (first | apply Kd.R_alloc | apply Kd.R_drewN | apply Kd.R_drew)); exact Kd.R_mono (Kd.R_far (p := ⟨gb146, 5, none⟩) (Kd.R_far (p := ⟨gb146, 4, none⟩) (Kd.R_far (p := ⟨gb146, 3, none⟩) (Kd.R_far (p := ⟨gb146, 2, none⟩) (Kd.R_far (p := ⟨gb146, 1, none⟩) (Kd.R_far (p := ⟨gb146, 0, none⟩) (Kd.R_types HO_6.out BK146.out (by decide)) (fun _ hk => hk.2) (.string t141)) (fun _ hk => hk.2) (.string (⟨#[97, 112, 112]⟩ : ByteArray))) (fun _ hk => hk.2) (.int .i64 (wrap64 ((x6_1.length : Int) + 1)))) (fun _ hk => hk.2) (.int .i64 (x6_1.length : Int))) (fun _ hk => hk.2) (.int .i64 (wrap64 (1 + t142)))) (fun _ hk => hk.2) (.int .i64 (wrap64 (1 + t144)))) (fun _ hk => trivial)⟩
                have n1_ : Aside0 (((((((w23.setCell ⟨gb146, 0, none⟩ (.string t141)).setCell ⟨gb146, 1, none⟩ (.string (⟨#[97, 112, 112]⟩ : ByteArray))).setCell ⟨gb146, 2, none⟩ (.int .i64 (wrap64 ((x6_1.length : Int) + 1)))).setCell ⟨gb146, 3, none⟩ (.int .i64 (x6_1.length : Int))).setCell ⟨gb146, 4, none⟩ (.int .i64 (wrap64 (1 + t142)))).setCell ⟨gb146, 5, none⟩ (.int .i64 (wrap64 (1 + t144)))).heap[gb146]? = some (.cells #[.string t141, .string (⟨#[97, 112, 112]⟩ : ByteArray), .int .i64 (wrap64 ((x6_1.length : Int) + 1)), .int .i64 (x6_1.length : Int), .int .i64 (wrap64 (1 + t142)), .int .i64 (wrap64 (1 + t144))] 56 (0, 0))) := ⟨by (with_reducible repeat (first | refine blk_drewN ?_ _ | refine blk_drew ?_ | refine blk_alloc ?_ _)); refine blk_put (cs := #[.string t141, .string (⟨#[97, 112, 112]⟩ : ByteArray), .int .i64 (wrap64 ((x6_1.length : Int) + 1)), .int .i64 (x6_1.length : Int), .int .i64 (wrap64 (1 + t142)), .int .i64 0]) ?_ 5 _ rfl; (with_reducible repeat (first | refine blk_drewN ?_ _ | refine blk_drew ?_ | refine blk_alloc ?_ _)); refine blk_put (cs := #[.string t141, .string (⟨#[97, 112, 112]⟩ : ByteArray), .int .i64 (wrap64 ((x6_1.length : Int) + 1)), .int .i64 (x6_1.length : Int), .int .i64 0, .int .i64 0]) ?_ 4 _ rfl; (with_reducible repeat (first | refine blk_drewN ?_ _ | refine blk_drew ?_ | refine blk_alloc ?_ _)); refine blk_put (cs := #[.string t141, .string (⟨#[97, 112, 112]⟩ : ByteArray), .int .i64 (wrap64 ((x6_1.length : Int) + 1)), .int .i64 0, .int .i64 0, .int .i64 0]) ?_ 3 _ rfl; (with_reducible repeat (first | refine blk_drewN ?_ _ | refine blk_drew ?_ | refine blk_alloc ?_ _)); refine blk_put (cs := #[.string t141, .string (⟨#[97, 112, 112]⟩ : ByteArray), .int .i64 0, .int .i64 0, .int .i64 0, .int .i64 0]) ?_ 2 _ rfl; (with_reducible repeat (first | refine blk_drewN ?_ _ | refine blk_drew ?_ | refine blk_alloc ?_ _)); refine blk_put (cs := #[.string t141, .string (⟨#[]⟩ : ByteArray), .int .i64 0, .int .i64 0, .int .i64 0, .int .i64 0]) ?_ 1 _ rfl; (with_reducible repeat (first | refine blk_drewN ?_ _ | refine blk_drew ?_ | refine blk_alloc ?_ _)); refine blk_put (cs := #[.string (⟨#[]⟩ : ByteArray), .string (⟨#[]⟩ : ByteArray), .int .i64 0, .int .i64 0, .int .i64 0, .int .i64 0]) ?_ 0 _ rfl; (with_reducible repeat (first | refine blk_drewN ?_ _ | refine blk_drew ?_ | refine blk_alloc ?_ _)); exact BK146.out⟩
                have n2_ : Aside0 (IsS66 w ((((((w23.setCell ⟨gb146, 0, none⟩ (.string t141)).setCell ⟨gb146, 1, none⟩ (.string (⟨#[97, 112, 112]⟩ : ByteArray))).setCell ⟨gb146, 2, none⟩ (.int .i64 (wrap64 ((x6_1.length : Int) + 1)))).setCell ⟨gb146, 3, none⟩ (.int .i64 (x6_1.length : Int))).setCell ⟨gb146, 4, none⟩ (.int .i64 (wrap64 (1 + t142)))).setCell ⟨gb146, 5, none⟩ (.int .i64 (wrap64 (1 + t144)))) gb138 l0 t145) := ⟨by repeat (first | (with_reducible first | exact HI138.out | apply IsS66.alloc | apply IsS66.drewN | apply IsS66.drew | apply IsS66.set_1 | refine IsS66.far ?_ NB138_146.out _) | exact HI138.out)⟩
                have n3_ : Aside0 (Below w.heap.size w ((((((w23.setCell ⟨gb146, 0, none⟩ (.string t141)).setCell ⟨gb146, 1, none⟩ (.string (⟨#[97, 112, 112]⟩ : ByteArray))).setCell ⟨gb146, 2, none⟩ (.int .i64 (wrap64 ((x6_1.length : Int) + 1)))).setCell ⟨gb146, 3, none⟩ (.int .i64 (x6_1.length : Int))).setCell ⟨gb146, 4, none⟩ (.int .i64 (wrap64 (1 + t142)))).setCell ⟨gb146, 5, none⟩ (.int .i64 (wrap64 (1 + t144))))) := ⟨by repeat (first | (with_reducible first | exact HB.out | apply below_alloc | apply pw_below_drewN | apply below_drew1 | refine below_set ?_ (IsS66.ge HI138.out) | refine below_set ?_ GE146.out) | exact HB.out)⟩
                (try clear HO_6)
                (try clear BK146)
                (try clear HI138)
                (try clear HB)
                generalize ((((((w23.setCell ⟨gb146, 0, none⟩ (.string t141)).setCell ⟨gb146, 1, none⟩ (.string (⟨#[97, 112, 112]⟩ : ByteArray))).setCell ⟨gb146, 2, none⟩ (.int .i64 (wrap64 ((x6_1.length : Int) + 1)))).setCell ⟨gb146, 3, none⟩ (.int .i64 (x6_1.length : Int))).setCell ⟨gb146, 4, none⟩ (.int .i64 (wrap64 (1 + t142)))).setCell ⟨gb146, 5, none⟩ (.int .i64 (wrap64 (1 + t144)))) = w26 at n0_ n1_ n2_ n3_ ⊢
                have HO_6 := n0_
                have BK146 := n1_
                have HI138 := n2_
                have HB := n3_
                clear n0_ n1_ n2_ n3_
                have n0_ := Aside0.mk (Kd.R_drew HO_6.out)
                have n1_ := Aside0.mk (blk_drew BK146.out)
                have n2_ := Aside0.mk (IsS66.drew HI138.out)
                have n3_ := Aside0.mk (below_drew1 HB.out)
                clear HO_6
                clear BK146
                clear HI138
                clear HB
                have HO_6 := n0_
                have BK146 := n1_
                have HI138 := n2_
                have HB := n3_
                clear n0_ n1_ n2_ n3_
                refine start_ (n := 15) (S := fun w' => w'.cell? ⟨gb146, 0, none⟩ = some (.string t141) ∧ w'.cell? ⟨gb146, 1, none⟩ = some (.string (⟨#[97, 112, 112]⟩ : ByteArray)) ∧ w'.cell? ⟨gb146, 2, none⟩ = some (.int .i64 (wrap64 ((x6_1.length : Int) + 1))) ∧ w'.cell? ⟨gb146, 3, none⟩ = some (.int .i64 (x6_1.length : Int)) ∧ w'.cell? ⟨gb146, 4, none⟩ = some (.int .i64 (wrap64 (1 + t142))) ∧ w'.cell? ⟨gb146, 5, none⟩ = some (.int .i64 (wrap64 (1 + t144)))) (ds := []) #[false, false, false, false, false, false, false, false, false, false, false, false, false, false, false] (by kernel_rfl) rfl rfl ⟨(blk_cell BK146.out 0).trans rfl, (blk_cell BK146.out 1).trans rfl, (blk_cell BK146.out 2).trans rfl, (blk_cell BK146.out 3).trans rfl, (blk_cell BK146.out 4).trans rfl, (blk_cell BK146.out 5).trans rfl⟩ (fun hHeld => ?_); refine with_tabW flagstonedata_Samples.tab6 flagstonedata_Samples.bits6 (fun HT_ HW_ => ?_)
                generalize w26.drew = w27 at HO_6 BK146 HI138 HB hHeld ⊢
                refine pure_ (i := 0) (N := some 33) (v := ?_) (a' := ?_) #[true, false, false, false, false, false, false, false, false, false, false, false, false, false, false] rfl rfl (any_of HT_.out (by kernel_rfl)) (fun _ _ _ h => h) (Or.inl ⟨by rfl, ?_⟩) ?_ ?_
                rotate_left
                · intro w'
                  go_simp
                  with_reducible rfl
                rotate_left
                · simp only [Act.put, List.setIfInBounds_toArray, List.set_cons_zero, List.set_cons_succ, i64_w, i32_w]
                  rfl
                refine pure_ (i := 2) (N := some 35) (v := ?_) (a' := ?_) #[true, false, true, false, false, false, false, false, false, false, false, false, false, false, false] rfl rfl (any_of HT_.out (by kernel_rfl)) (fun _ _ _ h => h) (Or.inl ⟨by rfl, ?_⟩) ?_ ?_
                rotate_left
                · intro w'
                  go_simp
                  with_reducible rfl
                rotate_left
                · simp only [Act.put, List.setIfInBounds_toArray, List.set_cons_zero, List.set_cons_succ, i64_w, i32_w]
                  rfl
                refine pure_ (i := 4) (N := some 37) (v := ?_) (a' := ?_) #[true, false, true, false, true, false, false, false, false, false, false, false, false, false, false] rfl rfl (any_of HT_.out (by kernel_rfl)) (fun _ _ _ h => h) (Or.inl ⟨by rfl, ?_⟩) ?_ ?_
                rotate_left
                · intro w'
                  go_simp
                  with_reducible rfl
                rotate_left
                · simp only [Act.put, List.setIfInBounds_toArray, List.set_cons_zero, List.set_cons_succ, i64_w, i32_w]
                  rfl
                refine pure_ (i := 5) (N := some 38) (v := ?_) (a' := ?_) #[true, false, true, false, true, true, false, false, false, false, false, false, false, false, false] rfl rfl (any_of HT_.out (by kernel_rfl)) (fun _ _ _ h => h) (Or.inl ⟨by rfl, ?_⟩) ?_ ?_
                rotate_left
                · intro w'
                  go_simp
                  with_reducible rfl
                rotate_left
                · simp only [Act.put, List.setIfInBounds_toArray, List.set_cons_zero, List.set_cons_succ, i64_w, i32_w]
                  rfl
                refine pure_ (i := 7) (N := some 40) (v := ?_) (a' := ?_) #[true, false, true, false, true, true, false, true, false, false, false, false, false, false, false] rfl rfl (any_of HT_.out (by kernel_rfl)) (fun _ _ _ h => h) (Or.inl ⟨by rfl, ?_⟩) ?_ ?_
                rotate_left
                · intro w'
                  go_simp
                  with_reducible rfl
                rotate_left
                · simp only [Act.put, List.setIfInBounds_toArray, List.set_cons_zero, List.set_cons_succ, i64_w, i32_w]
                  rfl
                refine pure_ (i := 9) (N := some 42) (v := ?_) (a' := ?_) #[true, false, true, false, true, true, false, true, false, true, false, false, false, false, false] rfl rfl (any_of HT_.out (by kernel_rfl)) (fun _ _ _ h => h) (Or.inl ⟨by rfl, ?_⟩) ?_ ?_
                rotate_left
                · intro w'
                  go_simp
                  with_reducible rfl
                rotate_left
                · simp only [Act.put, List.setIfInBounds_toArray, List.set_cons_zero, List.set_cons_succ, i64_w, i32_w]
                  rfl
                refine take_ (i := 1) (N := some 34) (v := ?_) (a' := ?_) #[true, true, true, false, true, true, false, true, false, true, false, false, false, false, false] rfl rfl (take_ofW HT_.out HW_.out (by kernel_rfl)) (fun _ _ _ h => h) (Or.inl ⟨by rfl, ?_⟩) hHeld ?_ ?_
                rotate_left
                · rintro w' ⟨s0, s1, s2, s3, s4, s5⟩
                  go_simp
                  with_reducible rfl
                rotate_left
                · simp only [Act.put, List.setIfInBounds_toArray, List.set_cons_zero, List.set_cons_succ, i64_w, i32_w]
                  rfl
                refine one_ (i := 3) (N := some 36) #[true, true, true, true, true, true, false, true, false, true, false, false, false, false, false] rfl rfl (one_of HT_.out (by kernel_rfl)) (by decide) (fun K hK => ?_)
                refine goes_ Try.func31 (by kernel_rfl) rfl #[.pointer (some ⟨gb138, 0, none⟩), .int .i64 256] (by rfl) rfl rfl (by (try simp only [List.map_toArray, List.map_cons, List.map_nil]); first | done | rfl | (simp only [List.length_drop, List.length_take]; rfl)) ?_
                with_reducible refine (flagstonedata_Source_Next.calls gb138 l0 t145 256 t147 t148 w _ ?side1 ?side2 A14.out).mono ?_
                (case side1 => repeat (first | (with_reducible first | exact HI138.out | apply IsS66.alloc | apply IsS66.drewN | apply IsS66.drew | apply IsS66.set_1 | refine IsS66.far ?_ NB138_146.out _) | exact HI138.out))
                (case side2 => repeat (first | (with_reducible first | exact HB.out | apply below_alloc | apply pw_below_drewN | apply below_drew1 | refine below_set ?_ (IsS66.ge HI138.out) | refine below_set ?_ GE146.out) | exact HB.out))
                rintro e w28 ⟨rfl, hi, hb, hk⟩
                refine ⟨_, rfl, ?_⟩
                have n0_ := Aside0.mk (Kd.R_mono (Kd.R_keep (IsS66.apart (show IsS66 w _ gb138 l0 t145 from by repeat (first | (with_reducible first | exact HI138.out | apply IsS66.alloc | apply IsS66.drewN | apply IsS66.drew | apply IsS66.set_1 | refine IsS66.far ?_ NB138_146.out _) | exact HI138.out)) (by (with_reducible repeat (first | apply Kd.R_alloc | apply Kd.R_drewN | apply Kd.R_drew)); exact HO_6.out) (by decide)) hk (fun _ h => h.2)) (fun _ h => h.1))
                have n1_ := Aside0.mk (KeepBut.blk hk (g' := gb146) (o := .cells #[.string t141, .string (⟨#[97, 112, 112]⟩ : ByteArray), .int .i64 (wrap64 ((x6_1.length : Int) + 1)), .int .i64 (x6_1.length : Int), .int .i64 (wrap64 (1 + t142)), .int .i64 (wrap64 (1 + t144))] 56 (0, 0)) (by (with_reducible repeat (first | refine blk_drewN ?_ _ | refine blk_drew ?_ | refine blk_alloc ?_ _)); exact BK146.out) NB146_138.out (by simp))
                have n2_ := Aside0.mk (hb)
                have n3_ := Aside0.mk (hi)
                clear HO_6
                clear BK146
                clear HB
                clear HI138
                have HO_6 := n0_
                have BK146 := n1_
                have HB := n2_
                have HI138 := n3_
                clear n0_ n1_ n2_ n3_
                (try clear hb)
                (try clear hb2)
                (try clear hk)
                (try clear hi)
                refine hK.out _ _ ⟨(blk_cell BK146.out 0).trans rfl, (blk_cell BK146.out 1).trans rfl, (blk_cell BK146.out 2).trans rfl, (blk_cell BK146.out 3).trans rfl, (blk_cell BK146.out 4).trans rfl, (blk_cell BK146.out 5).trans rfl⟩ (fun hHeld => ?_)
                clear hK K
                refine norm_ (a' := ?_) ?_ ?_
                rotate_left
                · show Act.put _ (some 36) _ = _
                  simp only [Act.put, List.setIfInBounds_toArray, List.set_cons_zero, List.set_cons_succ, i64_w, i32_w]
                  rfl
                refine pure_ (i := 6) (N := some 39) (v := ?_) (a' := ?_) #[true, true, true, true, true, true, true, true, false, true, false, false, false, false, false] rfl rfl (any_of HT_.out (by kernel_rfl)) (fun _ _ _ h => h) (Or.inl ⟨by rfl, ?_⟩) ?_ ?_
                rotate_left
                · intro w'
                  go_simp
                  with_reducible rfl
                rotate_left
                · simp only [Act.put, List.setIfInBounds_toArray, List.set_cons_zero, List.set_cons_succ, i64_w, i32_w]
                  rfl
                refine one_ (i := 8) (N := some 41) #[true, true, true, true, true, true, true, true, true, true, false, false, false, false, false] rfl rfl (one_of HT_.out (by kernel_rfl)) (by decide) (fun K hK => ?_)
                refine goes_ Try.func31 (by kernel_rfl) rfl #[.pointer (some ⟨gb138, 0, none⟩), .int .i64 9] (by rfl) rfl rfl (by (try simp only [List.map_toArray, List.map_cons, List.map_nil]); first | done | rfl | (simp only [List.length_drop, List.length_take]; rfl)) ?_
                with_reducible refine (flagstonedata_Source_Next.calls gb138 l0 t148 9 t149 t150 w _ ?side1 ?side2 A16.out).mono ?_
                (case side1 => repeat (first | (with_reducible first | exact HI138.out | apply IsS66.alloc | apply IsS66.drewN | apply IsS66.drew | apply IsS66.set_1 | refine IsS66.far ?_ NB138_146.out _) | exact HI138.out))
                (case side2 => repeat (first | (with_reducible first | exact HB.out | apply below_alloc | apply pw_below_drewN | apply below_drew1 | refine below_set ?_ (IsS66.ge HI138.out) | refine below_set ?_ GE146.out) | exact HB.out))
                rintro e w29 ⟨rfl, hi, hb, hk⟩
                refine ⟨_, rfl, ?_⟩
                have n0_ := Aside0.mk (Kd.R_mono (Kd.R_keep (IsS66.apart (show IsS66 w _ gb138 l0 t148 from by repeat (first | (with_reducible first | exact HI138.out | apply IsS66.alloc | apply IsS66.drewN | apply IsS66.drew | apply IsS66.set_1 | refine IsS66.far ?_ NB138_146.out _) | exact HI138.out)) (by (with_reducible repeat (first | apply Kd.R_alloc | apply Kd.R_drewN | apply Kd.R_drew)); exact HO_6.out) (by decide)) hk (fun _ h => h.2)) (fun _ h => h.1))
                have n1_ := Aside0.mk (KeepBut.blk hk (g' := gb146) (o := .cells #[.string t141, .string (⟨#[97, 112, 112]⟩ : ByteArray), .int .i64 (wrap64 ((x6_1.length : Int) + 1)), .int .i64 (x6_1.length : Int), .int .i64 (wrap64 (1 + t142)), .int .i64 (wrap64 (1 + t144))] 56 (0, 0)) (by (with_reducible repeat (first | refine blk_drewN ?_ _ | refine blk_drew ?_ | refine blk_alloc ?_ _)); exact BK146.out) NB146_138.out (by simp))
                have n2_ := Aside0.mk (hb)
                have n3_ := Aside0.mk (hi)
                clear HO_6
                clear BK146
                clear HB
                clear HI138
                have HO_6 := n0_
                have BK146 := n1_
                have HB := n2_
                have HI138 := n3_
                clear n0_ n1_ n2_ n3_
                (try clear hb)
                (try clear hb2)
                (try clear hk)
                (try clear hi)
                refine hK.out _ _ ⟨(blk_cell BK146.out 0).trans rfl, (blk_cell BK146.out 1).trans rfl, (blk_cell BK146.out 2).trans rfl, (blk_cell BK146.out 3).trans rfl, (blk_cell BK146.out 4).trans rfl, (blk_cell BK146.out 5).trans rfl⟩ (fun hHeld => ?_)
                clear hK K
                refine norm_ (a' := ?_) ?_ ?_
                rotate_left
                · show Act.put _ (some 41) _ = _
                  simp only [Act.put, List.setIfInBounds_toArray, List.set_cons_zero, List.set_cons_succ, i64_w, i32_w]
                  rfl
                refine one_ (i := 10) (N := some 43) #[true, true, true, true, true, true, true, true, true, true, true, false, false, false, false] rfl rfl (one_of HT_.out (by kernel_rfl)) (by decide) (fun K hK => ?_)
                refine goes_ Try.func31 (by kernel_rfl) rfl #[.pointer (some ⟨gb138, 0, none⟩), .int .i64 5] (by rfl) rfl rfl (by (try simp only [List.map_toArray, List.map_cons, List.map_nil]); first | done | rfl | (simp only [List.length_drop, List.length_take]; rfl)) ?_
                with_reducible refine (flagstonedata_Source_Next.calls gb138 l0 t150 5 t151 t152 w _ ?side1 ?side2 A17.out).mono ?_
                (case side1 => repeat (first | (with_reducible first | exact HI138.out | apply IsS66.alloc | apply IsS66.drewN | apply IsS66.drew | apply IsS66.set_1 | refine IsS66.far ?_ NB138_146.out _) | exact HI138.out))
                (case side2 => repeat (first | (with_reducible first | exact HB.out | apply below_alloc | apply pw_below_drewN | apply below_drew1 | refine below_set ?_ (IsS66.ge HI138.out) | refine below_set ?_ GE146.out) | exact HB.out))
                rintro e w30 ⟨rfl, hi, hb, hk⟩
                refine ⟨_, rfl, ?_⟩
                have n0_ := Aside0.mk (Kd.R_mono (Kd.R_keep (IsS66.apart (show IsS66 w _ gb138 l0 t150 from by repeat (first | (with_reducible first | exact HI138.out | apply IsS66.alloc | apply IsS66.drewN | apply IsS66.drew | apply IsS66.set_1 | refine IsS66.far ?_ NB138_146.out _) | exact HI138.out)) (by (with_reducible repeat (first | apply Kd.R_alloc | apply Kd.R_drewN | apply Kd.R_drew)); exact HO_6.out) (by decide)) hk (fun _ h => h.2)) (fun _ h => h.1))
                have n1_ := Aside0.mk (KeepBut.blk hk (g' := gb146) (o := .cells #[.string t141, .string (⟨#[97, 112, 112]⟩ : ByteArray), .int .i64 (wrap64 ((x6_1.length : Int) + 1)), .int .i64 (x6_1.length : Int), .int .i64 (wrap64 (1 + t142)), .int .i64 (wrap64 (1 + t144))] 56 (0, 0)) (by (with_reducible repeat (first | refine blk_drewN ?_ _ | refine blk_drew ?_ | refine blk_alloc ?_ _)); exact BK146.out) NB146_138.out (by simp))
                have n2_ := Aside0.mk (hb)
                have n3_ := Aside0.mk (hi)
                clear HO_6
                clear BK146
                clear HB
                clear HI138
                have HO_6 := n0_
                have BK146 := n1_
                have HB := n2_
                have HI138 := n3_
                clear n0_ n1_ n2_ n3_
                (try clear hb)
                (try clear hb2)
                (try clear hk)
                (try clear hi)
                refine hK.out _ _ ⟨(blk_cell BK146.out 0).trans rfl, (blk_cell BK146.out 1).trans rfl, (blk_cell BK146.out 2).trans rfl, (blk_cell BK146.out 3).trans rfl, (blk_cell BK146.out 4).trans rfl, (blk_cell BK146.out 5).trans rfl⟩ (fun hHeld => ?_)
                clear hK K
                refine norm_ (a' := ?_) ?_ ?_
                rotate_left
                · show Act.put _ (some 43) _ = _
                  simp only [Act.put, List.setIfInBounds_toArray, List.set_cons_zero, List.set_cons_succ, i64_w, i32_w]
                  rfl
                refine pure_ (i := 11) (N := some 44) (v := ?_) (a' := ?_) #[true, true, true, true, true, true, true, true, true, true, true, true, false, false, false] rfl rfl (any_of HT_.out (by kernel_rfl)) (fun _ _ _ h => h) (Or.inl ⟨by rfl, ?_⟩) ?_ ?_
                rotate_left
                · intro w'
                  go_simp
                  with_reducible rfl
                rotate_left
                · simp only [Act.put, List.setIfInBounds_toArray, List.set_cons_zero, List.set_cons_succ, i64_w, i32_w]
                  rfl
                refine one_ (i := 12) (N := some 45) #[true, true, true, true, true, true, true, true, true, true, true, true, true, false, false] rfl rfl (one_of HT_.out (by kernel_rfl)) (by decide) (fun K hK => ?_)
                refine value_ (w1 := ?_) (v := ?_) (by rfl) rfl ?_ ?_
                rotate_left 2
                · go_simp
                  constructor
                  · rfl
                  · rfl
                refine hK.out _ _ ⟨(blk_cell (blk_alloc BK146.out _) 0).trans rfl, (blk_cell (blk_alloc BK146.out _) 1).trans rfl, (blk_cell (blk_alloc BK146.out _) 2).trans rfl, (blk_cell (blk_alloc BK146.out _) 3).trans rfl, (blk_cell (blk_alloc BK146.out _) 4).trans rfl, (blk_cell (blk_alloc BK146.out _) 5).trans rfl⟩ (fun hHeld => ?_)
                clear hK K
                refine norm_ (a' := ?_) ?_ ?_
                rotate_left
                · show Act.put _ (some 45) _ = _
                  simp only [Act.put, List.setIfInBounds_toArray, List.set_cons_zero, List.set_cons_succ, i64_w, i32_w]
                  rfl
                refine one_ (i := 13) (N := some 46) #[true, true, true, true, true, true, true, true, true, true, true, true, true, true, false] rfl rfl (one_of HT_.out (by kernel_rfl)) (by decide) (fun K hK => ?_)
                refine Kd.R_append_step k58 (w0 := w) w.heap.size (by rfl) (.tmp 33) (.tmp 45) 49 58 (.agg #[(.string ⟨#[]⟩), (.string ⟨#[]⟩), (.int .i64 0), (.int .i64 0), (.int .i64 0), (.int .i64 0), (.int .i64 0), (.int .i64 0), (.int .i64 0), (.bool false)]) 96 rfl Try.underlying49 info58 rfl (by decide) (by omega) (.slice Ao19 x6_1.length co19) x6_1 (⟨(⟨t141, (⟨#[97, 112, 112]⟩ : ByteArray), wrap64 ((x6_1.length : Int) + 1), (x6_1.length : Int), wrap64 (1 + t142), wrap64 (1 + t144)⟩ : S56), Int.tmod t147 (wrap64 (a1 + 1)), t149, t151, false⟩ : S58) [.string t141, .string (⟨#[97, 112, 112]⟩ : ByteArray), .int .i64 (wrap64 ((x6_1.length : Int) + 1)), .int .i64 (x6_1.length : Int), .int .i64 (wrap64 (1 + t142)), .int .i64 (wrap64 (1 + t144)), .int .i64 (Int.tmod t147 (wrap64 (a1 + 1))), .int .i64 t149, .int .i64 t151, .bool false] (fun _ => True) (fun _ => False) rfl rfl ?aP (fun _ hk => hk.elim) ?aF ?aO ?aB ?aS ?aL ?_
                (case aP => exact k58_mkM _ _ _ (⟨(⟨t141, (⟨#[97, 112, 112]⟩ : ByteArray), wrap64 ((x6_1.length : Int) + 1), (x6_1.length : Int), wrap64 (1 + t142), wrap64 (1 + t144)⟩ : S56), Int.tmod t147 (wrap64 (a1 + 1)), t149, t151, false⟩ : S58))
                (case aB => exact (by repeat (first | (with_reducible first | exact HB.out | apply below_alloc | apply pw_below_drewN | apply below_drew1 | refine below_set ?_ (IsS66.ge HI138.out) | refine below_set ?_ GE146.out) | exact HB.out)))
                (case aF => exact (fun _ _ => trivial))
                (case aO => exact (by (with_reducible repeat (first | apply Kd.R_alloc | apply Kd.R_drewN | apply Kd.R_drew)); exact HO_6.out))
                (case aS => exact (below_size (by repeat (first | (with_reducible first | exact HB.out | apply below_alloc | apply pw_below_drewN | apply below_drew1 | refine below_set ?_ (IsS66.ge HI138.out) | refine below_set ?_ GE146.out) | exact HB.out))))
                (case aL => have := LMc18.out; omega)
                intro v154 w31 ho hb hg hat
                rw [← Ny153.out] at ho
                have n0_ := Aside0.mk (IsS66.grown (by repeat (first | (with_reducible first | exact HI138.out | apply IsS66.alloc | apply IsS66.drewN | apply IsS66.drew | apply IsS66.set_1 | refine IsS66.far ?_ NB138_146.out _) | exact HI138.out)) hg (IsS66.own_ne HI138.out HO_6.out (by decide)))
                have n1_ := Aside0.mk (blk_grown (g := gb146) (o := .cells #[.string t141, .string (⟨#[97, 112, 112]⟩ : ByteArray), .int .i64 (wrap64 ((x6_1.length : Int) + 1)), .int .i64 (x6_1.length : Int), .int .i64 (wrap64 (1 + t142)), .int .i64 (wrap64 (1 + t144))] 56 (0, 0)) (by (with_reducible repeat (first | refine blk_drewN ?_ _ | refine blk_drew ?_ | refine blk_alloc ?_ _)); exact BK146.out) hg (Kd.R_ne HO_6.out BK146.out (by decide)))
                have n2_ := Aside0.mk (hb)
                have n3_ := Aside0.mk (ho)
                clear HI138
                clear BK146
                clear HB
                clear HO_6
                have HI138 := n0_
                have BK146 := n1_
                have HB := n2_
                have HO155 := n3_
                clear n0_ n1_ n2_ n3_
                clear ho hb hg hat
                refine hK.out _ _ ⟨(blk_cell BK146.out 0).trans rfl, (blk_cell BK146.out 1).trans rfl, (blk_cell BK146.out 2).trans rfl, (blk_cell BK146.out 3).trans rfl, (blk_cell BK146.out 4).trans rfl, (blk_cell BK146.out 5).trans rfl⟩ (fun hHeld => ?_)
                clear hK K
                refine norm_ (a' := ?_) ?_ ?_
                rotate_left
                · show Act.put _ (some 46) _ = _
                  simp only [Act.put, List.setIfInBounds_toArray, List.set_cons_zero, List.set_cons_succ, i64_w, i32_w]
                  rfl
                refine pure_ (i := 14) (N := some 6) (v := ?_) (a' := ?_) #[true, true, true, true, true, true, true, true, true, true, true, true, true, true, true] rfl rfl (any_of HT_.out (by kernel_rfl)) (fun _ _ _ h => h) (Or.inl ⟨by rfl, ?_⟩) ?_ ?_
                rotate_left
                · intro w'
                  go_simp
                  with_reducible rfl
                rotate_left
                · simp only [Act.put, List.setIfInBounds_toArray, List.set_cons_zero, List.set_cons_succ, i64_w, i32_w]
                  rfl
                refine done_ (done_of HT_.out (by kernel_rfl)) ?_
                try go_wp2
                go_roundg kj3
                case measure => have := HK1.out; have := HJ3.out; omega
                case rel => exact ⟨(y153), (t152), H', ⟨by have := HK1.out; have := HJ3.out; omega⟩, ⟨by (with_reducible repeat (first | apply Kd.R_alloc | apply Kd.R_drewN | apply Kd.R_drew)); exact HO155.out⟩, ⟨by repeat (first | (with_reducible first | exact HI138.out | apply IsS66.alloc | apply IsS66.drewN | apply IsS66.drew | apply IsS66.set_1 | refine IsS66.far ?_ NB138_146.out _) | exact HI138.out)⟩, ⟨by repeat (first | (with_reducible first | exact HB.out | apply below_alloc | apply pw_below_drewN | apply below_drew1 | refine below_set ?_ (IsS66.ge HI138.out) | refine below_set ?_ GE146.out) | exact HB.out)⟩⟩
              · rw [if_neg c18] at H
                exact absurd H (by simp)
          · replace c10 := Bool.eq_false_iff.mpr c10
            subst c10
            have H1 : (some x6_1) = some r := by rw [if_neg (show ¬ (false = true) by decide)] at H; exact H
            clear H
            have H := H1
            clear H1
            obtain rfl := Option.some.inj H
            go_wp2
            go_ret
            exact ⟨_, by first | rfl | (simp [errW_none, errW_some] <;> rfl) | (simp [*, errW_none, errW_some] <;> rfl), by (with_reducible repeat (first | apply Kd.R_alloc | apply Kd.R_drewN | apply Kd.R_drew)); exact HO_6.out, by repeat (first | (with_reducible first | exact HB.out | apply below_alloc | apply pw_below_drewN | apply below_drew1 | refine below_set ?_ (IsS66.ge HI138.out)) | exact HB.out)⟩

/-! ### score_weights_valid: function 33 -/
def score_weights_valid.f (a0_0 : Int) (a0_1 : Int) : Option (Bool) := if a0_0 ≥ 1 then (if a0_0 ≤ 10000 then (if a0_1 ≥ 1 then (some (decide (a0_1 ≤ 10000))) else (some false)) else (some false)) else (some false)
set_option maxHeartbeats 8000000 in
set_option maxRecDepth 100000 in
theorem score_weights_valid.calls (a0_0 : Int) (a0_1 : Int) (r : Bool) (w : World) (h : score_weights_valid.f a0_0 a0_1 = some r) :
    Calls Try.prog 33 #[.agg #[.int .i64 a0_0, .int .i64 a0_1]] w fun e w' => e = .returned (.bool r) ∧ Below w.heap.size w w' := by
  have hu71 := Try.underlying71
  have HB := Aside0.mk (Below.refl w.heap.size w)
  have H : (if a0_0 ≥ 1 then (if a0_0 ≤ 10000 then (if a0_1 ≥ 1 then (some (decide (a0_1 ≤ 10000))) else (some false)) else (some false)) else (some false)) = some r := h
  clear h
  by_cases c2 : a0_0 ≥ 1
  · rw [if_pos c2] at H
    have c2b0 : decide (1 ≤ a0_0) = true := decide_eq_true c2
    clear c2
    by_cases c3 : a0_0 ≤ 10000
    · rw [if_pos c3] at H
      have c3b0 : decide (a0_0 ≤ 10000) = true := decide_eq_true c3
      clear c3
      by_cases c4 : a0_1 ≥ 1
      · rw [if_pos c4] at H
        have c4b0 : decide (1 ≤ a0_1) = true := decide_eq_true c4
        clear c4
        obtain rfl := Option.some.inj H
        go_enter Try.func33, Try.ntmps33
        go_wp2_with (first | ((with_reducible refine gate_dst (N := 1) rfl ?_); refine box_event ?hg (N := 1) ?hd (cs := #[.int .i64 a0_0, .int .i64 a0_1]) (t := 71) ?hr ?_; (case hd => rfl); (case hg => rfl); (case hr => first | (go_simp; done) | (go_simp; rfl)); intro gb156 hg w5 hbox hb; have n0_ := Aside0.mk (below_step (by repeat (first | (with_reducible first | exact HB.out | apply below_alloc | apply pw_below_drewN | apply below_drew1) | exact HB.out)) hb); have n1_ := Aside0.mk (hbox); have n2_ := Aside0.mk ((by rw [hg]; exact (below_size (by repeat (first | (with_reducible first | exact HB.out | apply below_alloc | apply pw_below_drewN | apply below_drew1) | exact HB.out))) : w.heap.size ≤ gb156)); have n3_ := Aside0.mk ((by rw [hg]; exact (below_size (by repeat (first | (with_reducible first | exact HB.out | apply below_alloc | apply pw_below_drewN | apply below_drew1) | exact HB.out))) : w.heap.size ≤ gb156)); clear HB; have HB := n0_; have BK156 := n1_; have GW156 := n2_; have GE156 := n3_; clear n0_ n1_ n2_ n3_; clear hb hbox hg; have hcz6_0 : w5.cell? ⟨gb156, 0, none⟩ = some (.int .i64 a0_0) := (blk_cell BK156.out 0).trans rfl; have hcz6_1 : w5.cell? ⟨gb156, 1, none⟩ = some (.int .i64 a0_1) := (blk_cell BK156.out 1).trans rfl; have hfz6_0 := blk_frozen BK156.out 0; have hfz6_1 := blk_frozen BK156.out 1))
        go_ret
        exact ⟨by first | rfl | (simp [errW_none, errW_some] <;> rfl) | (simp [*, errW_none, errW_some] <;> rfl), by repeat (first | (with_reducible first | exact HB.out | apply below_alloc | apply pw_below_drewN | apply below_drew1 | refine below_set ?_ GE156.out) | exact HB.out)⟩
      · rw [if_neg c4] at H
        have c4b0 : decide (1 ≤ a0_1) = false := decide_eq_false c4
        clear c4
        obtain rfl := Option.some.inj H
        go_enter Try.func33, Try.ntmps33
        go_wp2_with (first | ((with_reducible refine gate_dst (N := 1) rfl ?_); refine box_event ?hg (N := 1) ?hd (cs := #[.int .i64 a0_0, .int .i64 a0_1]) (t := 71) ?hr ?_; (case hd => rfl); (case hg => rfl); (case hr => first | (go_simp; done) | (go_simp; rfl)); intro gb156 hg w7 hbox hb; have n0_ := Aside0.mk (below_step (by repeat (first | (with_reducible first | exact HB.out | apply below_alloc | apply pw_below_drewN | apply below_drew1) | exact HB.out)) hb); have n1_ := Aside0.mk (hbox); have n2_ := Aside0.mk ((by rw [hg]; exact (below_size (by repeat (first | (with_reducible first | exact HB.out | apply below_alloc | apply pw_below_drewN | apply below_drew1) | exact HB.out))) : w.heap.size ≤ gb156)); have n3_ := Aside0.mk ((by rw [hg]; exact (below_size (by repeat (first | (with_reducible first | exact HB.out | apply below_alloc | apply pw_below_drewN | apply below_drew1) | exact HB.out))) : w.heap.size ≤ gb156)); clear HB; have HB := n0_; have BK156 := n1_; have GW156 := n2_; have GE156 := n3_; clear n0_ n1_ n2_ n3_; clear hb hbox hg; have hcz8_0 : w7.cell? ⟨gb156, 0, none⟩ = some (.int .i64 a0_0) := (blk_cell BK156.out 0).trans rfl; have hcz8_1 : w7.cell? ⟨gb156, 1, none⟩ = some (.int .i64 a0_1) := (blk_cell BK156.out 1).trans rfl; have hfz8_0 := blk_frozen BK156.out 0; have hfz8_1 := blk_frozen BK156.out 1))
        go_ret
        exact ⟨by first | rfl | (simp [errW_none, errW_some] <;> rfl) | (simp [*, errW_none, errW_some] <;> rfl), by repeat (first | (with_reducible first | exact HB.out | apply below_alloc | apply pw_below_drewN | apply below_drew1 | refine below_set ?_ GE156.out) | exact HB.out)⟩
    · rw [if_neg c3] at H
      have c3b0 : decide (a0_0 ≤ 10000) = false := decide_eq_false c3
      clear c3
      obtain rfl := Option.some.inj H
      go_enter Try.func33, Try.ntmps33
      go_wp2_with (first | ((with_reducible refine gate_dst (N := 1) rfl ?_); refine box_event ?hg (N := 1) ?hd (cs := #[.int .i64 a0_0, .int .i64 a0_1]) (t := 71) ?hr ?_; (case hd => rfl); (case hg => rfl); (case hr => first | (go_simp; done) | (go_simp; rfl)); intro gb156 hg w9 hbox hb; have n0_ := Aside0.mk (below_step (by repeat (first | (with_reducible first | exact HB.out | apply below_alloc | apply pw_below_drewN | apply below_drew1) | exact HB.out)) hb); have n1_ := Aside0.mk (hbox); have n2_ := Aside0.mk ((by rw [hg]; exact (below_size (by repeat (first | (with_reducible first | exact HB.out | apply below_alloc | apply pw_below_drewN | apply below_drew1) | exact HB.out))) : w.heap.size ≤ gb156)); have n3_ := Aside0.mk ((by rw [hg]; exact (below_size (by repeat (first | (with_reducible first | exact HB.out | apply below_alloc | apply pw_below_drewN | apply below_drew1) | exact HB.out))) : w.heap.size ≤ gb156)); clear HB; have HB := n0_; have BK156 := n1_; have GW156 := n2_; have GE156 := n3_; clear n0_ n1_ n2_ n3_; clear hb hbox hg; have hcz10_0 : w9.cell? ⟨gb156, 0, none⟩ = some (.int .i64 a0_0) := (blk_cell BK156.out 0).trans rfl; have hcz10_1 : w9.cell? ⟨gb156, 1, none⟩ = some (.int .i64 a0_1) := (blk_cell BK156.out 1).trans rfl; have hfz10_0 := blk_frozen BK156.out 0; have hfz10_1 := blk_frozen BK156.out 1))
      go_ret
      exact ⟨by first | rfl | (simp [errW_none, errW_some] <;> rfl) | (simp [*, errW_none, errW_some] <;> rfl), by repeat (first | (with_reducible first | exact HB.out | apply below_alloc | apply pw_below_drewN | apply below_drew1 | refine below_set ?_ GE156.out) | exact HB.out)⟩
  · rw [if_neg c2] at H
    have c2b0 : decide (1 ≤ a0_0) = false := decide_eq_false c2
    clear c2
    obtain rfl := Option.some.inj H
    go_enter Try.func33, Try.ntmps33
    go_wp2_with (first | ((with_reducible refine gate_dst (N := 1) rfl ?_); refine box_event ?hg (N := 1) ?hd (cs := #[.int .i64 a0_0, .int .i64 a0_1]) (t := 71) ?hr ?_; (case hd => rfl); (case hg => rfl); (case hr => first | (go_simp; done) | (go_simp; rfl)); intro gb156 hg w11 hbox hb; have n0_ := Aside0.mk (below_step (by repeat (first | (with_reducible first | exact HB.out | apply below_alloc | apply pw_below_drewN | apply below_drew1) | exact HB.out)) hb); have n1_ := Aside0.mk (hbox); have n2_ := Aside0.mk ((by rw [hg]; exact (below_size (by repeat (first | (with_reducible first | exact HB.out | apply below_alloc | apply pw_below_drewN | apply below_drew1) | exact HB.out))) : w.heap.size ≤ gb156)); have n3_ := Aside0.mk ((by rw [hg]; exact (below_size (by repeat (first | (with_reducible first | exact HB.out | apply below_alloc | apply pw_below_drewN | apply below_drew1) | exact HB.out))) : w.heap.size ≤ gb156)); clear HB; have HB := n0_; have BK156 := n1_; have GW156 := n2_; have GE156 := n3_; clear n0_ n1_ n2_ n3_; clear hb hbox hg; have hcz12_0 : w11.cell? ⟨gb156, 0, none⟩ = some (.int .i64 a0_0) := (blk_cell BK156.out 0).trans rfl; have hcz12_1 : w11.cell? ⟨gb156, 1, none⟩ = some (.int .i64 a0_1) := (blk_cell BK156.out 1).trans rfl; have hfz12_0 := blk_frozen BK156.out 0; have hfz12_1 := blk_frozen BK156.out 1))
    go_ret
    exact ⟨by first | rfl | (simp [errW_none, errW_some] <;> rfl) | (simp [*, errW_none, errW_some] <;> rfl), by repeat (first | (with_reducible first | exact HB.out | apply below_alloc | apply pw_below_drewN | apply below_drew1 | refine below_set ?_ GE156.out) | exact HB.out)⟩

/-! ### bits_Len32: function 43 -/
def bits_Len32.j0 : Nat → Int → Int → Option (Int)
  | 0, _, _ => none
  | k + 1, x0, x2 => if x0 ≥ 256 then (if 0 ≤ ((x0 / 256) % 256) then (if ((x0 / 256) % 256) < 256 then (some (wrap64 ((wrap64 (x2 + 8)) + (wrap64 (bt (⟨#[0, 1, 2, 2, 3, 3, 3, 3, 4, 4, 4, 4, 4, 4, 4, 4, 5, 5, 5, 5, 5, 5, 5, 5, 5, 5, 5, 5, 5, 5, 5, 5, 6, 6, 6, 6, 6, 6, 6, 6, 6, 6, 6, 6, 6, 6, 6, 6, 6, 6, 6, 6, 6, 6, 6, 6, 6, 6, 6, 6, 6, 6, 6, 6, 7, 7, 7, 7, 7, 7, 7, 7, 7, 7, 7, 7, 7, 7, 7, 7, 7, 7, 7, 7, 7, 7, 7, 7, 7, 7, 7, 7, 7, 7, 7, 7, 7, 7, 7, 7, 7, 7, 7, 7, 7, 7, 7, 7, 7, 7, 7, 7, 7, 7, 7, 7, 7, 7, 7, 7, 7, 7, 7, 7, 7, 7, 7, 7, 8, 8, 8, 8, 8, 8, 8, 8, 8, 8, 8, 8, 8, 8, 8, 8, 8, 8, 8, 8, 8, 8, 8, 8, 8, 8, 8, 8, 8, 8, 8, 8, 8, 8, 8, 8, 8, 8, 8, 8, 8, 8, 8, 8, 8, 8, 8, 8, 8, 8, 8, 8, 8, 8, 8, 8, 8, 8, 8, 8, 8, 8, 8, 8, 8, 8, 8, 8, 8, 8, 8, 8, 8, 8, 8, 8, 8, 8, 8, 8, 8, 8, 8, 8, 8, 8, 8, 8, 8, 8, 8, 8, 8, 8, 8, 8, 8, 8, 8, 8, 8, 8, 8, 8, 8, 8, 8, 8, 8, 8, 8, 8, 8, 8, 8, 8, 8, 8, 8, 8, 8, 8, 8, 8, 8, 8, 8, 8]⟩ : ByteArray) ((x0 / 256) % 256)))))) else (none)) else (none)) else (if 0 ≤ ((x0) % 256) then (if ((x0) % 256) < 256 then (some (wrap64 (x2 + (wrap64 (bt (⟨#[0, 1, 2, 2, 3, 3, 3, 3, 4, 4, 4, 4, 4, 4, 4, 4, 5, 5, 5, 5, 5, 5, 5, 5, 5, 5, 5, 5, 5, 5, 5, 5, 6, 6, 6, 6, 6, 6, 6, 6, 6, 6, 6, 6, 6, 6, 6, 6, 6, 6, 6, 6, 6, 6, 6, 6, 6, 6, 6, 6, 6, 6, 6, 6, 7, 7, 7, 7, 7, 7, 7, 7, 7, 7, 7, 7, 7, 7, 7, 7, 7, 7, 7, 7, 7, 7, 7, 7, 7, 7, 7, 7, 7, 7, 7, 7, 7, 7, 7, 7, 7, 7, 7, 7, 7, 7, 7, 7, 7, 7, 7, 7, 7, 7, 7, 7, 7, 7, 7, 7, 7, 7, 7, 7, 7, 7, 7, 7, 8, 8, 8, 8, 8, 8, 8, 8, 8, 8, 8, 8, 8, 8, 8, 8, 8, 8, 8, 8, 8, 8, 8, 8, 8, 8, 8, 8, 8, 8, 8, 8, 8, 8, 8, 8, 8, 8, 8, 8, 8, 8, 8, 8, 8, 8, 8, 8, 8, 8, 8, 8, 8, 8, 8, 8, 8, 8, 8, 8, 8, 8, 8, 8, 8, 8, 8, 8, 8, 8, 8, 8, 8, 8, 8, 8, 8, 8, 8, 8, 8, 8, 8, 8, 8, 8, 8, 8, 8, 8, 8, 8, 8, 8, 8, 8, 8, 8, 8, 8, 8, 8, 8, 8, 8, 8, 8, 8, 8, 8, 8, 8, 8, 8, 8, 8, 8, 8, 8, 8, 8, 8, 8, 8, 8, 8, 8, 8]⟩ : ByteArray) ((x0) % 256)))))) else (none)) else (none))
def bits_Len32.f (k : Nat) (a0 : Int) : Option (Int) := if a0 ≥ 65536 then (bits_Len32.j0 k (a0 / 65536) 16) else (bits_Len32.j0 k a0 0)
theorem bits_Len32.mono_l : ∀ k, (∀ y0 y1, LeO (bits_Len32.j0 k y0 y1) (bits_Len32.j0 (k + 1) y0 y1))
  | 0 => fun _ _ r h => by simp [bits_Len32.j0] at h
  | k + 1 => by
    have ih0 := bits_Len32.mono_l k
    · intro y0 y1
      unfold bits_Len32.j0
      repeat' first
      | (with_reducible exact ih0 _ _)
      | (with_reducible exact LeO.refl _)
      | (with_reducible exact LeO.none _)
      | (with_reducible refine LeO.ite ?_ ?_)
      | (with_reducible refine LeO.bind ?_ (fun _ => ?_))
      | exact ih0 _ _
      | exact LeO.none _
      | refine LeO.ite ?_ ?_
      | refine LeO.bind ?_ (fun _ => ?_)
theorem bits_Len32.mono : ∀ a0 k, LeO (bits_Len32.f k a0) (bits_Len32.f (k + 1) a0) := by
  intro a0 k
  have ih0 := bits_Len32.mono_l k
  unfold bits_Len32.f
  repeat' first
      | (with_reducible exact ih0 _ _)
      | (with_reducible exact LeO.refl _)
      | (with_reducible exact LeO.none _)
      | (with_reducible refine LeO.ite ?_ ?_)
      | (with_reducible refine LeO.bind ?_ (fun _ => ?_))
      | exact ih0 _ _
      | exact LeO.none _
      | refine LeO.ite ?_ ?_
      | refine LeO.bind ?_ (fun _ => ?_)
set_option maxHeartbeats 8000000 in
set_option maxRecDepth 100000 in
theorem bits_Len32.calls (k : Nat) (a0 : Int) (r : Int) (w : World) (h : bits_Len32.f k a0 = some r) :
    Calls Try.prog 43 #[.int .u32 a0] w fun e w' => e = .returned (.int .i64 r) ∧ Drawn0 w w' := by
  have H : (if a0 ≥ 65536 then (bits_Len32.j0 k (a0 / 65536) 16) else (bits_Len32.j0 k a0 0)) = some r := h
  clear h
  have HC2 := Aside0.mk H
  clear H
  go_enter Try.func43, Try.ntmps43
  go_upto_if 4 with (fail)
  go_cut [0, 2] (fun v0 v2 wc => ∃ (kq : Nat) (x0_1 : Int) (x2_1 : Int), v0 = .int .u32 x0_1 ∧ v2 = .int .i64 x2_1 ∧ Aside0 (bits_Len32.j0 kq x0_1 x2_1 = some r) ∧ Aside0 (kq ≤ k) ∧ Drawn0 w wc)
  case first =>
    have H := HC2.out
    clear HC2
    by_cases c3 : a0 ≥ 65536
    · rw [if_pos c3] at H
      have c3b0 : decide (65536 ≤ a0) = true := decide_eq_true c3
      clear c3
      (first | rw [c3b0] | (simp only [i64_w, i32_w]; rw [c3b0]) | skip)
      have H' := Aside0.mk H
      clear H
      go_wp2
      go_meet
      case rel => exact ⟨_, (a0 / 65536), (16), (by first | rfl | (simp; done) | (simp [*]; done) | exact congrArg (Value.int _) (by unfold wrap64; omega)), (by first | rfl | (simp; done) | (simp [*]; done) | exact congrArg (Value.int _) (by unfold wrap64; omega)), H', ⟨by first | omega | exact Nat.le_refl _⟩, by repeat (first | exact Drawn0.refl _ | apply Drawn0.step)⟩
    · rw [if_neg c3] at H
      have c3b0 : decide (65536 ≤ a0) = false := decide_eq_false c3
      clear c3
      (first | rw [c3b0] | (simp only [i64_w, i32_w]; rw [c3b0]) | skip)
      have H' := Aside0.mk H
      clear H
      go_wp2
      go_meet
      case rel => exact ⟨_, (a0), (0), (by first | rfl | (simp; done) | (simp [*]; done) | exact congrArg (Value.int _) (by unfold wrap64; omega)), (by first | rfl | (simp; done) | (simp [*]; done) | exact congrArg (Value.int _) (by unfold wrap64; omega)), H', ⟨by first | omega | exact Nat.le_refl _⟩, by repeat (first | exact Drawn0.refl _ | apply Drawn0.step)⟩
  case rest =>
    clear HC2
    try clear p2
    try clear c3
    try clear c3b0
    obtain ⟨kq, x0_1, x2_1, rfl, rfl, HA, HJ1, ⟨mc1, rfl⟩⟩ := hcut
    cases kq with
    | zero => exact absurd HA.out (by simp [bits_Len32.j0])
    | succ kj1 =>
      have H := HA.out
      clear HA
      simp only [bits_Len32.j0] at H
      by_cases c4 : x0_1 ≥ 256
      · rw [if_pos c4] at H
        have c4b0 : decide (256 ≤ x0_1) = true := decide_eq_true c4
        clear c4
        obtain ⟨ji5, hji5⟩ : ∃ j_ : Int, ((x0_1 / 256) % 256) = j_ := ⟨_, rfl⟩
        replace H : (if 0 ≤ (ji5) then (if (ji5) < 256 then (some (wrap64 ((wrap64 (x2_1 + 8)) + (wrap64 (bt (⟨#[0, 1, 2, 2, 3, 3, 3, 3, 4, 4, 4, 4, 4, 4, 4, 4, 5, 5, 5, 5, 5, 5, 5, 5, 5, 5, 5, 5, 5, 5, 5, 5, 6, 6, 6, 6, 6, 6, 6, 6, 6, 6, 6, 6, 6, 6, 6, 6, 6, 6, 6, 6, 6, 6, 6, 6, 6, 6, 6, 6, 6, 6, 6, 6, 7, 7, 7, 7, 7, 7, 7, 7, 7, 7, 7, 7, 7, 7, 7, 7, 7, 7, 7, 7, 7, 7, 7, 7, 7, 7, 7, 7, 7, 7, 7, 7, 7, 7, 7, 7, 7, 7, 7, 7, 7, 7, 7, 7, 7, 7, 7, 7, 7, 7, 7, 7, 7, 7, 7, 7, 7, 7, 7, 7, 7, 7, 7, 7, 8, 8, 8, 8, 8, 8, 8, 8, 8, 8, 8, 8, 8, 8, 8, 8, 8, 8, 8, 8, 8, 8, 8, 8, 8, 8, 8, 8, 8, 8, 8, 8, 8, 8, 8, 8, 8, 8, 8, 8, 8, 8, 8, 8, 8, 8, 8, 8, 8, 8, 8, 8, 8, 8, 8, 8, 8, 8, 8, 8, 8, 8, 8, 8, 8, 8, 8, 8, 8, 8, 8, 8, 8, 8, 8, 8, 8, 8, 8, 8, 8, 8, 8, 8, 8, 8, 8, 8, 8, 8, 8, 8, 8, 8, 8, 8, 8, 8, 8, 8, 8, 8, 8, 8, 8, 8, 8, 8, 8, 8, 8, 8, 8, 8, 8, 8, 8, 8, 8, 8, 8, 8, 8, 8, 8, 8, 8, 8]⟩ : ByteArray) (ji5)))))) else (none)) else (none)) = some r := by first | (rw [hji5] at H; exact H) | (simp only [hji5] at H ⊢; exact H)
        by_cases c6 : 0 ≤ (ji5)
        · rw [if_pos c6] at H
          have c6b0 : decide (0 ≤ (ji5)) = true := decide_eq_true c6
          clear c6
          by_cases c7 : (ji5) < 256
          · rw [if_pos c7] at H
            have c7b0 : decide ((ji5) < 256) = true := decide_eq_true c7
            clear c7
            obtain rfl := Option.some.inj H
            have p8 : 0 ≤ ((ji5) : Int) := of_decide_eq_true (by first | (with_reducible assumption) | assumption)
            have q8 : (ji5) < (256 : Int) := of_decide_eq_true (by first | (with_reducible assumption) | assumption)
            have hx8 := bt_at (⟨#[0, 1, 2, 2, 3, 3, 3, 3, 4, 4, 4, 4, 4, 4, 4, 4, 5, 5, 5, 5, 5, 5, 5, 5, 5, 5, 5, 5, 5, 5, 5, 5, 6, 6, 6, 6, 6, 6, 6, 6, 6, 6, 6, 6, 6, 6, 6, 6, 6, 6, 6, 6, 6, 6, 6, 6, 6, 6, 6, 6, 6, 6, 6, 6, 7, 7, 7, 7, 7, 7, 7, 7, 7, 7, 7, 7, 7, 7, 7, 7, 7, 7, 7, 7, 7, 7, 7, 7, 7, 7, 7, 7, 7, 7, 7, 7, 7, 7, 7, 7, 7, 7, 7, 7, 7, 7, 7, 7, 7, 7, 7, 7, 7, 7, 7, 7, 7, 7, 7, 7, 7, 7, 7, 7, 7, 7, 7, 7, 8, 8, 8, 8, 8, 8, 8, 8, 8, 8, 8, 8, 8, 8, 8, 8, 8, 8, 8, 8, 8, 8, 8, 8, 8, 8, 8, 8, 8, 8, 8, 8, 8, 8, 8, 8, 8, 8, 8, 8, 8, 8, 8, 8, 8, 8, 8, 8, 8, 8, 8, 8, 8, 8, 8, 8, 8, 8, 8, 8, 8, 8, 8, 8, 8, 8, 8, 8, 8, 8, 8, 8, 8, 8, 8, 8, 8, 8, 8, 8, 8, 8, 8, 8, 8, 8, 8, 8, 8, 8, 8, 8, 8, 8, 8, 8, 8, 8, 8, 8, 8, 8, 8, 8, 8, 8, 8, 8, 8, 8, 8, 8, 8, 8, 8, 8, 8, 8, 8, 8, 8, 8, 8, 8, 8, 8, 8, 8]⟩ : ByteArray) (ji5)
            replace p8 := eq_true p8
            replace q8 := eq_true q8
            go_wp2
            go_ret
            exact ⟨by first | rfl | (simp; done) | (simp only [← hji5] <;> (first | rfl | simp)) | (simp [*]; done), by repeat (first | exact Drawn0.refl _ | apply Drawn0.step)⟩
          · rw [if_neg c7] at H
            exact absurd H (by simp)
        · rw [if_neg c6] at H
          exact absurd H (by simp)
      · rw [if_neg c4] at H
        have c4b0 : decide (256 ≤ x0_1) = false := decide_eq_false c4
        clear c4
        obtain ⟨ji9, hji9⟩ : ∃ j_ : Int, ((x0_1) % 256) = j_ := ⟨_, rfl⟩
        replace H : (if 0 ≤ (ji9) then (if (ji9) < 256 then (some (wrap64 (x2_1 + (wrap64 (bt (⟨#[0, 1, 2, 2, 3, 3, 3, 3, 4, 4, 4, 4, 4, 4, 4, 4, 5, 5, 5, 5, 5, 5, 5, 5, 5, 5, 5, 5, 5, 5, 5, 5, 6, 6, 6, 6, 6, 6, 6, 6, 6, 6, 6, 6, 6, 6, 6, 6, 6, 6, 6, 6, 6, 6, 6, 6, 6, 6, 6, 6, 6, 6, 6, 6, 7, 7, 7, 7, 7, 7, 7, 7, 7, 7, 7, 7, 7, 7, 7, 7, 7, 7, 7, 7, 7, 7, 7, 7, 7, 7, 7, 7, 7, 7, 7, 7, 7, 7, 7, 7, 7, 7, 7, 7, 7, 7, 7, 7, 7, 7, 7, 7, 7, 7, 7, 7, 7, 7, 7, 7, 7, 7, 7, 7, 7, 7, 7, 7, 8, 8, 8, 8, 8, 8, 8, 8, 8, 8, 8, 8, 8, 8, 8, 8, 8, 8, 8, 8, 8, 8, 8, 8, 8, 8, 8, 8, 8, 8, 8, 8, 8, 8, 8, 8, 8, 8, 8, 8, 8, 8, 8, 8, 8, 8, 8, 8, 8, 8, 8, 8, 8, 8, 8, 8, 8, 8, 8, 8, 8, 8, 8, 8, 8, 8, 8, 8, 8, 8, 8, 8, 8, 8, 8, 8, 8, 8, 8, 8, 8, 8, 8, 8, 8, 8, 8, 8, 8, 8, 8, 8, 8, 8, 8, 8, 8, 8, 8, 8, 8, 8, 8, 8, 8, 8, 8, 8, 8, 8, 8, 8, 8, 8, 8, 8, 8, 8, 8, 8, 8, 8, 8, 8, 8, 8, 8, 8]⟩ : ByteArray) (ji9)))))) else (none)) else (none)) = some r := by first | (rw [hji9] at H; exact H) | (simp only [hji9] at H ⊢; exact H)
        by_cases c10 : 0 ≤ (ji9)
        · rw [if_pos c10] at H
          have c10b0 : decide (0 ≤ (ji9)) = true := decide_eq_true c10
          clear c10
          by_cases c11 : (ji9) < 256
          · rw [if_pos c11] at H
            have c11b0 : decide ((ji9) < 256) = true := decide_eq_true c11
            clear c11
            obtain rfl := Option.some.inj H
            have p12 : 0 ≤ ((ji9) : Int) := of_decide_eq_true (by first | (with_reducible assumption) | assumption)
            have q12 : (ji9) < (256 : Int) := of_decide_eq_true (by first | (with_reducible assumption) | assumption)
            have hx12 := bt_at (⟨#[0, 1, 2, 2, 3, 3, 3, 3, 4, 4, 4, 4, 4, 4, 4, 4, 5, 5, 5, 5, 5, 5, 5, 5, 5, 5, 5, 5, 5, 5, 5, 5, 6, 6, 6, 6, 6, 6, 6, 6, 6, 6, 6, 6, 6, 6, 6, 6, 6, 6, 6, 6, 6, 6, 6, 6, 6, 6, 6, 6, 6, 6, 6, 6, 7, 7, 7, 7, 7, 7, 7, 7, 7, 7, 7, 7, 7, 7, 7, 7, 7, 7, 7, 7, 7, 7, 7, 7, 7, 7, 7, 7, 7, 7, 7, 7, 7, 7, 7, 7, 7, 7, 7, 7, 7, 7, 7, 7, 7, 7, 7, 7, 7, 7, 7, 7, 7, 7, 7, 7, 7, 7, 7, 7, 7, 7, 7, 7, 8, 8, 8, 8, 8, 8, 8, 8, 8, 8, 8, 8, 8, 8, 8, 8, 8, 8, 8, 8, 8, 8, 8, 8, 8, 8, 8, 8, 8, 8, 8, 8, 8, 8, 8, 8, 8, 8, 8, 8, 8, 8, 8, 8, 8, 8, 8, 8, 8, 8, 8, 8, 8, 8, 8, 8, 8, 8, 8, 8, 8, 8, 8, 8, 8, 8, 8, 8, 8, 8, 8, 8, 8, 8, 8, 8, 8, 8, 8, 8, 8, 8, 8, 8, 8, 8, 8, 8, 8, 8, 8, 8, 8, 8, 8, 8, 8, 8, 8, 8, 8, 8, 8, 8, 8, 8, 8, 8, 8, 8, 8, 8, 8, 8, 8, 8, 8, 8, 8, 8, 8, 8, 8, 8, 8, 8, 8, 8]⟩ : ByteArray) (ji9)
            replace p12 := eq_true p12
            replace q12 := eq_true q12
            go_wp2
            go_ret
            exact ⟨by first | rfl | (simp; done) | (simp only [← hji9] <;> (first | rfl | simp)) | (simp [*]; done), by repeat (first | exact Drawn0.refl _ | apply Drawn0.step)⟩
          · rw [if_neg c11] at H
            exact absurd H (by simp)
        · rw [if_neg c10] at H
          exact absurd H (by simp)

end Go.Proofs.Ytafcnpfhihnmgaa.PA
