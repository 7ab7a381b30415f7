-- Written by a program of this seat's session (wip/tools/ownprint.py, over the kit's printer) out of the translation: functions and their contracts.
import Derived.Test.YtdmhdbebjjhopaaPA0
import Derived.Test.YtdmhdbebjjhopaaPA1
namespace Go.Proofs.Ytdmhdbebjjhopaa.PA
open Go.RowKit Go.Proofs.YtdmhdbebjjhopaaW.PrintWords Go.Proofs.YtdmhdbebjjhopaaW.PrintLast Go.Proofs.YtdmhdbebjjhopaaW.PrintMore
attribute [local go_sem] max2_int min2_int max_two min_two max_three min_three max_four min_four   -- for this text's walks alone
set_option linter.unusedVariables false
set_option linter.unusedSimpArgs false

attribute [local go_sem high] eqA37
/-- A state of type 58 at block g of W; what its slices lead to came in by w0. -/
def IsS58 (w0 W : World) (g : Nat) (f0 : List Int) (f1 : Int) : Prop := ∃ A0 c0, W.heap[g]? = some (.cells #[.slice A0 f0.length c0, .int .i64 f1] 58 (0, 0)) ∧ w0.heap.size ≤ g ∧ Kd.C (Kd.int .u8) w0 A0 f0.length f0
theorem IsS58.grown {w0 W : World} {g : Nat} {f0 : List Int} {f1 : Int} {W1 : World} {row : Option Nat} (h : IsS58 w0 W g f0 f1) (hw : W.grownBy W1 row) (hne : some g ≠ row) : IsS58 w0 W1 g f0 f1 := by
  obtain ⟨A0, c0, hb, hg, hr0⟩ := h
  exact ⟨A0, c0, blk_grown hb hw hne, hg, hr0⟩
theorem IsS58.own_neN {w0 W : World} {g : Nat} {f0 : List Int} {f1 : Int} {α : Type} {d : Kd α} {e : Nat} {base : Nat} {ok : Nat → Prop} {v : Value} {xs : List α} (h : IsS58 w0 W g f0 f1) (ho : Kd.N d e W base ok v xs) (ht : e ≠ 58) : some g ≠ v.ownBlock := by
  obtain ⟨A0, c0, hb, hg, hr0⟩ := h
  exact Kd.N_ne ho hb ht
theorem IsS58.fresh {w0 W : World} {g : Nat} {f0 : List Int} {f1 : Int} (h : IsS58 w0 W g f0 f1) : ∀ k, W.heap.size ≤ k → k ≠ g := by
  obtain ⟨A0, c0, hb, hg, hr0⟩ := h
  exact Kd.freshB hb
theorem IsS58.kept {w0 W : World} {g : Nat} {f0 : List Int} {f1 : Int} {W1 : World} {S : Nat → Prop} (h : IsS58 w0 W g f0 f1) (hk : Kept W W1 S) (hne : ¬ S g) : IsS58 w0 W1 g f0 f1 := by
  obtain ⟨A0, c0, hb, hg, hr0⟩ := h
  exact ⟨A0, c0, blk_kept hb hk hne, hg, hr0⟩
theorem IsS58.below {w0 W : World} {g : Nat} {f0 : List Int} {f1 : Int} {W1 : World} (h : IsS58 w0 W g f0 f1) (hw : Below W.heap.size W W1) : IsS58 w0 W1 g f0 f1 := h.grown (grown_of_below hw none) (by simp)
theorem IsS58.alloc {w0 W : World} {g : Nat} {f0 : List Int} {f1 : Int} (h : IsS58 w0 W g f0 f1) (o : Obj) : IsS58 w0 (W.alloc o) g f0 f1 := h.below (below_alloc (Below.refl _ _) o)
theorem IsS58.drewN {w0 W : World} {g : Nat} {f0 : List Int} {f1 : Int} (h : IsS58 w0 W g f0 f1) (m : Nat) : IsS58 w0 (W.drewN m) g f0 f1 := h
theorem IsS58.drew {w0 W : World} {g : Nat} {f0 : List Int} {f1 : Int} (h : IsS58 w0 W g f0 f1) : IsS58 w0 W.drew g f0 f1 := h
theorem IsS58.at_ {w0 W : World} {g : Nat} {f0 : List Int} {f1 : Int} {w' : World} {m : Nat} (hq : W.drewN m = w') (h : IsS58 w0 W g f0 f1) : IsS58 w0 w' g f0 f1 := by subst hq; exact IsS58.drewN h m
theorem IsS58.apart {w0 W : World} {g : Nat} {f0 : List Int} {f1 : Int} {α : Type} {d : Kd α} {e : Nat} {base : Nat} {ok : Nat → Prop} {v : Value} {xs : List α} (h : IsS58 w0 W g f0 f1) (ho : d.R e W base ok v xs) (ht : ∀ q, q ∈ e :: d.E → q ≠ 58) : d.R e W base (fun k => ok k ∧ k ≠ g) v xs := by
  obtain ⟨A0, c0, hb, hg, hr0⟩ := h
  exact Kd.R_types ho hb ht
theorem IsS58.own_ne {w0 W : World} {g : Nat} {f0 : List Int} {f1 : Int} {α : Type} {d : Kd α} {e : Nat} {base : Nat} {ok : Nat → Prop} {v : Value} {xs : List α} (h : IsS58 w0 W g f0 f1) (ho : d.R e W base ok v xs) (ht : e ≠ 58) : some g ≠ v.ownBlock := by
  obtain ⟨A0, c0, hb, hg, hr0⟩ := h
  exact Kd.R_ne ho hb ht
theorem IsS58.apartQ {w0 W : World} {g : Nat} {f0 : List Int} {f1 : Int} {α : Type} {d : Kd α} {e : Nat} {base : Nat} {ok : Nat → Prop} {v : Value} {xs : List α} (h : IsS58 w0 W g f0 f1) (ho : d.Q e W base ok v xs) (ht : ∀ q, q ∈ e :: d.E → q ≠ 58) : d.Q e W base (fun k => ok k ∧ k ≠ g) v xs := by
  obtain ⟨A0, c0, hb, hg, hr0⟩ := h
  exact Kd.Q_types ho hb ht
theorem IsS58.own_neQ {w0 W : World} {g : Nat} {f0 : List Int} {f1 : Int} {α : Type} {d : Kd α} {e : Nat} {base : Nat} {ok : Nat → Prop} {v : Value} {xs : List α} (h : IsS58 w0 W g f0 f1) (ho : d.Q e W base ok v xs) (ht : e ≠ 58) : some g ≠ v.ownBlock := by
  obtain ⟨A0, c0, hb, hg, hr0⟩ := h
  exact Kd.Q_ne ho hb ht
theorem IsS58.apartS {w0 W : World} {g : Nat} {f0 : List Int} {f1 : Int} {α : Type} {d : Kd α} {e : Nat} {base : Nat} {ok : Nat → Prop} {v : Value} {xs : List α} (h : IsS58 w0 W g f0 f1) (ho : d.S e W base ok v xs) (ht : ∀ q, q ∈ e :: d.E → q ≠ 58) : d.S e W base (fun k => ok k ∧ k ≠ g) v xs := by
  obtain ⟨A0, c0, hb, hg, hr0⟩ := h
  exact Kd.S_types ho hb ht
theorem IsS58.own_neS {w0 W : World} {g : Nat} {f0 : List Int} {f1 : Int} {α : Type} {d : Kd α} {e : Nat} {base : Nat} {ok : Nat → Prop} {v : Value} {xs : List α} (h : IsS58 w0 W g f0 f1) (ho : d.S e W base ok v xs) (ht : e ≠ 58) : some g ≠ v.ownBlock := by
  obtain ⟨A0, c0, hb, hg, hr0⟩ := h
  exact Kd.S_ne ho hb ht
theorem IsS58.lt {w0 W : World} {g : Nat} {f0 : List Int} {f1 : Int} (h : IsS58 w0 W g f0 f1) : g < W.heap.size := by
  obtain ⟨A0, c0, hb, hg, hr0⟩ := h
  exact blk_lt hb
theorem IsS58.ge {w0 W : World} {g : Nat} {f0 : List Int} {f1 : Int} (h : IsS58 w0 W g f0 f1) : w0.heap.size ≤ g := by
  obtain ⟨A0, c0, hb, hg, hr0⟩ := h
  exact hg
theorem IsS58.ne_blk {w0 W : World} {g : Nat} {f0 : List Int} {f1 : Int} {a : Nat} {cs : Array Value} {t : TypeId} {fr : Nat × Nat} (h : IsS58 w0 W g f0 f1) (hb2 : W.heap[a]? = some (.cells cs t fr)) (ht : t ≠ 58) : g ≠ a := by
  obtain ⟨A0, c0, hb, hg, hr0⟩ := h
  rintro rfl
  rw [hb] at hb2
  injection hb2 with hb2
  injection hb2 with _ ht2
  exact ht ht2.symm
theorem IsS58.far {w0 W : World} {g : Nat} {f0 : List Int} {f1 : Int} {p : Addr} (h : IsS58 w0 W g f0 f1) (hne : g ≠ p.block) (u : Value) : IsS58 w0 (W.setCell p u) g f0 f1 := by
  obtain ⟨A0, c0, hb, hg, hr0⟩ := h
  exact ⟨A0, c0, blk_far hb hne u, hg, hr0⟩
theorem cellS58_0 {W : World} {g : Nat} {A0 : Option Addr} {c0 : Nat} {f0 : List Int} {f1 : Int} (h : W.heap[g]? = some (.cells #[.slice A0 f0.length c0, .int .i64 f1] 58 (0, 0))) : W.cell? ⟨g, 0, none⟩ = some (.slice A0 f0.length c0) := (blk_cell h 0).trans rfl
theorem cellS58_1 {W : World} {g : Nat} {A0 : Option Addr} {c0 : Nat} {f0 : List Int} {f1 : Int} (h : W.heap[g]? = some (.cells #[.slice A0 f0.length c0, .int .i64 f1] 58 (0, 0))) : W.cell? ⟨g, 1, none⟩ = some (.int .i64 f1) := (blk_cell h 1).trans rfl
theorem IsS58.set_1 {w0 W : World} {g : Nat} {f0 : List Int} {f1 : Int} (h : IsS58 w0 W g f0 f1) (x : Int) : IsS58 w0 (W.setCell ⟨g, 1, none⟩ (.int .i64 x)) g f0 x := by
  obtain ⟨A0, c0, hb, hg, hr0⟩ := h
  exact ⟨A0, c0, by simpa using blk_set hb 1 (.int .i64 x), hg, hr0⟩
theorem IsS58.new (w0 W : World) (A0 : Option Addr) (c0 : Nat) (f0 : List Int) (f1 : Int) (hB : Below w0.heap.size w0 W) (hr0 : Kd.C (Kd.int .u8) w0 A0 f0.length f0) : IsS58 w0 (W.alloc (.cells #[.slice A0 f0.length c0, .int .i64 f1] 58)) W.heap.size f0 f1 := ⟨A0, c0, by simpa using heap_alloc_new W _, hB.size, hr0⟩

/-! ### flagstonedata_Source_More: function 25 -/
def flagstonedata_Source_More.f (s0_0 : List Int) (s0_1 : Int) : Option (Bool × Int) := some (decide (s0_1 < (s0_0.length : Int)), s0_1)
set_option maxHeartbeats 8000000 in
set_option maxRecDepth 100000 in
theorem flagstonedata_Source_More.calls (g : Nat) (s0_0 : List Int) (s0_1 : Int) (r1 : Bool) (r2 : Int) (w0 w : World) (hI : IsS58 w0 w g s0_0 s0_1) (hB : Below w0.heap.size w0 w) (h : flagstonedata_Source_More.f s0_0 s0_1 = some (r1, r2)) :
    Calls Try.prog 25 #[.pointer (some ⟨g, 0, none⟩)] w fun e w' => e = .returned (.bool r1) ∧ IsS58 w0 w' g s0_0 r2 ∧ Below w0.heap.size w0 w' ∧ KeepBut w w' g none := by
  have HI0 := Aside0.mk hI
  have HK := Aside0.mk (KeepBut.refl w g none)
  have HL := Aside0.mk hB.size
  clear hI
  have HW0 := Aside0.mk hB.size
  have HB := Aside0.mk hB
  clear hB
  have H : (some (decide (s0_1 < (s0_0.length : Int)), s0_1)) = some (r1, r2) := h
  clear h
  simp only [Option.some.injEq, Prod.mk.injEq] at H
  obtain ⟨rfl, rfl⟩ := H
  obtain ⟨ASz2_0, cSz2_0, HGz2, hgz2, HSz2_0⟩ := HI0.out
  have hcz2_0 := cellS58_0 HGz2
  have hcz2_1 := cellS58_1 HGz2
  have hfz2_1 := blk_frozen HGz2 1
  clear HGz2 hgz2
  go_enter Try.func25, Try.ntmps25
  go_wp2
  repeat (go_quiet (fail); try go_wp2)
  go_ret
  exact ⟨by first | rfl | (simp [errW_none, errW_some] <;> rfl) | (simp [*, errW_none, errW_some] <;> rfl), by repeat (first | (with_reducible first | exact HI0.out | apply IsS58.alloc | apply IsS58.drewN | apply IsS58.drew | apply IsS58.set_1) | exact HI0.out), by repeat (first | (with_reducible first | exact HB.out | apply below_alloc | apply pw_below_drewN | apply below_drew1 | refine below_set ?_ (IsS58.ge HI0.out)) | exact HB.out), by repeat (first | (with_reducible first | exact HK.out | apply KeepBut.set_ | apply keep_drewN | apply keep_drew | apply keep_alloc) | exact HK.out)⟩

/-! ### flagstonedata_Ids: function 35 -/
def flagstonedata_Ids.f  : Option (List ByteArray) := some (([(⟨#[97, 110, 110]⟩ : ByteArray), (⟨#[98, 111, 98]⟩ : ByteArray), (⟨#[99, 97, 116]⟩ : ByteArray), (⟨#[100, 97, 110]⟩ : ByteArray), (⟨#[101, 118, 101]⟩ : ByteArray), (⟨#[102, 97, 121]⟩ : ByteArray)] : List ByteArray))
set_option maxHeartbeats 8000000 in
set_option maxRecDepth 100000 in
theorem flagstonedata_Ids.calls  (r : List ByteArray) (w : World) (h : flagstonedata_Ids.f  = some r) :
    Calls Try.prog 35 #[] w fun e w' => ∃ v0_ : Value, e = .returned (v0_) ∧ Kd.R Kd.string 9 w' w.heap.size (fun _ => True) v0_ r ∧ Below w.heap.size w w' := by
  have HB := Aside0.mk (Below.refl w.heap.size w)
  have H : (some (([(⟨#[97, 110, 110]⟩ : ByteArray), (⟨#[98, 111, 98]⟩ : ByteArray), (⟨#[99, 97, 116]⟩ : ByteArray), (⟨#[100, 97, 110]⟩ : ByteArray), (⟨#[101, 118, 101]⟩ : ByteArray), (⟨#[102, 97, 121]⟩ : ByteArray)] : List ByteArray))) = some r := h
  clear h
  obtain ⟨y166, hy166⟩ : ∃ y_ : List ByteArray, y_ = (([(⟨#[97, 110, 110]⟩ : ByteArray), (⟨#[98, 111, 98]⟩ : ByteArray), (⟨#[99, 97, 116]⟩ : ByteArray), (⟨#[100, 97, 110]⟩ : ByteArray), (⟨#[101, 118, 101]⟩ : ByteArray), (⟨#[102, 97, 121]⟩ : ByteArray)] : List ByteArray)) := ⟨_, rfl⟩
  replace H : (some y166) = some r := by first | (rw [hy166]; with_reducible exact H) | (have H2_ := (Option.bind_some _ _).symm.trans H; rw [hy166]; with_reducible exact H2_) | (have H2_ := (Option.bind_some _ _).symm.trans H; with_reducible exact H2_) | with_reducible exact H | (rw [hy166]; exact H) | exact H
  have Ny166 := Aside0.mk hy166
  clear hy166
  obtain rfl := Option.some.inj H
  go_enter Try.func35, Try.ntmps35
  go_wp2_with (first | ((with_reducible refine gate_dst (N := 1) rfl ?_); refine Kd.R_lit Kd.string _ 9 ?hg (N := 1) ?hd (xs := ([(⟨#[97, 110, 110]⟩ : ByteArray), (⟨#[98, 111, 98]⟩ : ByteArray), (⟨#[99, 97, 116]⟩ : ByteArray), (⟨#[100, 97, 110]⟩ : ByteArray), (⟨#[101, 118, 101]⟩ : ByteArray), (⟨#[102, 97, 121]⟩ : ByteArray)] : List ByteArray)) (inner := [.string (⟨#[97, 110, 110]⟩ : ByteArray), .string (⟨#[98, 111, 98]⟩ : ByteArray), .string (⟨#[99, 97, 116]⟩ : ByteArray), .string (⟨#[100, 97, 110]⟩ : ByteArray), .string (⟨#[101, 118, 101]⟩ : ByteArray), .string (⟨#[102, 97, 121]⟩ : ByteArray)]) (ok := fun _ => True) (okp := fun _ => True) ?hr ?hp (fun _ hk => hk) trivial (Below.refl _ _) (Nat.le_refl _) (by simp) ?_; (case hd => rfl); (case hg => rfl); (case hr => first | (go_simp; done) | (go_simp; rfl)); (case hp => exact (Reps.one (show Kd.M Kd.string _ _ _ (⟨#[97, 110, 110]⟩ : ByteArray) [.string (⟨#[97, 110, 110]⟩ : ByteArray)] from rfl) (Reps.one (show Kd.M Kd.string _ _ _ (⟨#[98, 111, 98]⟩ : ByteArray) [.string (⟨#[98, 111, 98]⟩ : ByteArray)] from rfl) (Reps.one (show Kd.M Kd.string _ _ _ (⟨#[99, 97, 116]⟩ : ByteArray) [.string (⟨#[99, 97, 116]⟩ : ByteArray)] from rfl) (Reps.one (show Kd.M Kd.string _ _ _ (⟨#[100, 97, 110]⟩ : ByteArray) [.string (⟨#[100, 97, 110]⟩ : ByteArray)] from rfl) (Reps.one (show Kd.M Kd.string _ _ _ (⟨#[101, 118, 101]⟩ : ByteArray) [.string (⟨#[101, 118, 101]⟩ : ByteArray)] from rfl) (Reps.one (show Kd.M Kd.string _ _ _ (⟨#[102, 97, 121]⟩ : ByteArray) [.string (⟨#[102, 97, 121]⟩ : ByteArray)] from rfl) (Reps.none _ _)))))))); intro v167 w1 ho2 hb hg_ hnew_; clear hg_ hnew_; (first | rw [← Ny166.out] at ho2 | (simp only [Int.reduceToNat] at ho2; rw [← Ny166.out] at ho2)); have n0_ := Aside0.mk (Kd.R_lower ho2 (below_size (by repeat (first | (with_reducible first | exact HB.out | apply below_alloc | apply pw_below_drewN | apply below_drew1) | exact HB.out)))); have n1_ := Aside0.mk (below_step (by repeat (first | (with_reducible first | exact HB.out | apply below_alloc | apply pw_below_drewN | apply below_drew1) | exact HB.out)) hb); clear HB; have HO168 := n0_; have HB := n1_; clear n0_ n1_; clear hb ho2))
  go_ret
  exact ⟨_, by first | rfl | (simp [errW_none, errW_some] <;> rfl) | (simp [*, errW_none, errW_some] <;> rfl), by (with_reducible repeat (first | apply Kd.R_alloc | apply Kd.R_drewN | apply Kd.R_drew)); exact HO168.out, by repeat (first | (with_reducible first | exact HB.out | apply below_alloc | apply pw_below_drewN | apply below_drew1) | exact HB.out)⟩

/-! ### flagstonedata_Id: function 26 -/
def flagstonedata_Id.f (a0 : Int) : Option (ByteArray) := (flagstonedata_Ids.f).bind fun t169 => ((flagstonedata_Ids.f).bind fun t172 => (if (t172.length : Int) = 0 then (none) else (if 0 ≤ (Int.tmod a0 (t172.length : Int)) then (if (Int.tmod a0 (t172.length : Int)) < (t169.length : Int) then (some (rdOf ByteArray.empty t169 (Int.tmod a0 (t172.length : Int)))) else (none)) else (none))))
set_option maxHeartbeats 8000000 in
set_option maxRecDepth 100000 in
theorem flagstonedata_Id.calls (a0 : Int) (r : ByteArray) (w : World) (h : flagstonedata_Id.f a0 = some r) :
    Calls Try.prog 26 #[.int .i64 a0] w fun e w' => e = .returned (.string r) ∧ Below w.heap.size w w' := by
  have HB := Aside0.mk (Below.refl w.heap.size w)
  have H : ((flagstonedata_Ids.f).bind fun t169 => ((flagstonedata_Ids.f).bind fun t172 => (if (t172.length : Int) = 0 then (none) else (if 0 ≤ (Int.tmod a0 (t172.length : Int)) then (if (Int.tmod a0 (t172.length : Int)) < (t169.length : Int) then (some (rdOf ByteArray.empty t169 (Int.tmod a0 (t172.length : Int)))) else (none)) else (none))))) = some r := h
  clear h
  replace H := Option.bind_eq_some_iff.mp H
  obtain ⟨t169, A20, H⟩ := H
  replace H : ((flagstonedata_Ids.f).bind fun t172 => (if (t172.length : Int) = 0 then (none) else (if 0 ≤ (Int.tmod a0 (t172.length : Int)) then (if (Int.tmod a0 (t172.length : Int)) < (t169.length : Int) then (some (rdOf ByteArray.empty t169 (Int.tmod a0 (t172.length : Int)))) else (none)) else (none)))) = some r := H
  have A2 := Aside0.mk A20
  clear A20
  replace H := Option.bind_eq_some_iff.mp H
  obtain ⟨t172, A30, H⟩ := H
  replace H : (if (t172.length : Int) = 0 then (none) else (if 0 ≤ (Int.tmod a0 (t172.length : Int)) then (if (Int.tmod a0 (t172.length : Int)) < (t169.length : Int) then (some (rdOf ByteArray.empty t169 (Int.tmod a0 (t172.length : Int)))) else (none)) else (none))) = some r := H
  have A3 := Aside0.mk A30
  clear A30
  by_cases c4 : (t172.length : Int) = 0
  · rw [if_pos c4] at H
    exact absurd H (by simp)
  · rw [if_neg c4] at H
    have c4b0 : ((t172.length : Int) == 0) = false := beq_eq_false_iff_ne.mpr c4
    have c4b1 : ((t172.length : Int) != 0) = true := bne_iff_ne.mpr c4
    have c4b2 : ¬ (t172 = []) := fun h_ => c4 (by rw [h_]; rfl)
    obtain ⟨ji5, hji5⟩ : ∃ j_ : Int, (Int.tmod a0 (t172.length : Int)) = j_ := ⟨_, rfl⟩
    replace H : (if 0 ≤ (ji5) then (if (ji5) < (t169.length : Int) then (some (rdOf ByteArray.empty t169 (ji5))) else (none)) else (none)) = some r := by first | (rw [hji5] at H; exact H) | (simp only [hji5] at H ⊢; exact H)
    (try rw [hji5] at A2)
    (try rw [hji5] at A3)
    by_cases c6 : 0 ≤ (ji5)
    · rw [if_pos c6] at H
      have c6b0 : decide (0 ≤ (ji5)) = true := decide_eq_true c6
      clear c6
      by_cases c7 : (ji5) < (t169.length : Int)
      · rw [if_pos c7] at H
        have c7b0 : decide ((ji5) < (t169.length : Int)) = true := decide_eq_true c7
        clear c7
        obtain rfl := Option.some.inj H
        go_enter Try.func26, Try.ntmps26
        go_wp2_with (first | ((with_reducible refine gate_callee (f := 35) rfl ?_); refine goesL_ (some 3) rfl rfl Try.func35 (by kernel_rfl) rfl #[] rfl (by (try simp only [List.map_toArray, List.map_cons, List.map_nil]); first | done | rfl | (simp only [List.length_drop, List.length_take]; rfl)) ?_; (with_reducible refine (flagstonedata_Ids.calls  t169 _ A2.out).mono ?_); rintro e w8 ⟨v170, rfl, ho0, hb⟩; refine ⟨_, rfl, ?_⟩; have n0_ := Aside0.mk (Kd.R_lower ho0 (below_size (by repeat (first | (with_reducible first | exact HB.out | apply below_alloc | apply pw_below_drewN | apply below_drew1) | exact HB.out)))); have n1_ := Aside0.mk (below_step (by repeat (first | (with_reducible first | exact HB.out | apply below_alloc | apply pw_below_drewN | apply below_drew1) | exact HB.out)) hb); clear HB; have HO171 := n0_; have HB := n1_; clear n0_ n1_; (try clear hb); (try clear hb2); (try clear hk); (try clear hi); (try clear ho0)) | ((with_reducible refine gate_callee (f := 35) rfl ?_); refine goesL_ (some 5) rfl rfl Try.func35 (by kernel_rfl) rfl #[] rfl (by (try simp only [List.map_toArray, List.map_cons, List.map_nil]); first | done | rfl | (simp only [List.length_drop, List.length_take]; rfl)) ?_; (with_reducible refine (flagstonedata_Ids.calls  t172 _ A3.out).mono ?_); rintro e w9 ⟨v173, rfl, ho0, hb⟩; refine ⟨_, rfl, ?_⟩; have n0_ := Aside0.mk (Kd.R_elder' (by (with_reducible repeat (first | apply Kd.R_alloc | apply Kd.R_drewN | apply Kd.R_drew)); exact HO171.out) (Kd.R_base ho0) hb); have n1_ := Aside0.mk (Kd.R_lower (Kd.R_new' ho0 (Kd.R_lt (by (with_reducible repeat (first | apply Kd.R_alloc | apply Kd.R_drewN | apply Kd.R_drew)); exact HO171.out))) (below_size (by repeat (first | (with_reducible first | exact HB.out | apply below_alloc | apply pw_below_drewN | apply below_drew1) | exact HB.out)))); have n2_ := Aside0.mk (below_step (by repeat (first | (with_reducible first | exact HB.out | apply below_alloc | apply pw_below_drewN | apply below_drew1) | exact HB.out)) hb); clear HO171; clear HB; have HO171 := n0_; have HO174 := n1_; have HB := n2_; clear n0_ n1_ n2_; (try clear hb); (try clear hb2); (try clear hk); (try clear hi); (try clear ho0); obtain ⟨Ao10, co10, eo10⟩ := Kd.R_slice HO174.out; subst eo10; obtain ⟨Ao11, co11, eo11⟩ := Kd.R_slice HO171.out; subst eo11; have p175 : 0 ≤ ((ji5) : Int) := of_decide_eq_true (by first | (with_reducible assumption) | assumption); have q175 : (ji5) < (t169.length : Int) := of_decide_eq_true (by first | (with_reducible assumption) | assumption); obtain ⟨ad175, e175, hx175_0⟩ := Kd.at_string (Kd.R_reads' HO171.out).2.2 (ji5) p175 q175; cases e175; replace p175 := eq_true p175; replace q175 := eq_true q175))
        go_ret
        exact ⟨by first | rfl | (simp [errW_none, errW_some] <;> rfl) | (simp only [← hji5]; first | rfl | (simp [errW_none, errW_some] <;> rfl)) | (simp [*, errW_none, errW_some] <;> rfl), by repeat (first | (with_reducible first | exact HB.out | apply below_alloc | apply pw_below_drewN | apply below_drew1) | exact HB.out)⟩
      · rw [if_neg c7] at H
        exact absurd H (by simp)
    · rw [if_neg c6] at H
      exact absurd H (by simp)

/-! ### flagstonedata_Source_Next: function 27 -/
def flagstonedata_Source_Next.f (s0_0 : List Int) (s0_1 : Int) (a1 : Int) : Option (Int × Int) := if s0_1 ≥ (s0_0.length : Int) then (some (0, s0_1)) else (if 0 ≤ (wrap64 ((wrap64 (s0_1 + 1)) - 1)) then (if (wrap64 ((wrap64 (s0_1 + 1)) - 1)) < (s0_0.length : Int) then (if a1 = 0 then (none) else (some (Int.tmod (wrap64 (rd s0_0 (wrap64 ((wrap64 (s0_1 + 1)) - 1)))) a1, wrap64 (s0_1 + 1)))) else (none)) else (none))
set_option maxHeartbeats 8000000 in
set_option maxRecDepth 100000 in
theorem flagstonedata_Source_Next.calls (g : Nat) (s0_0 : List Int) (s0_1 : Int) (a1 : Int) (r1 : Int) (r2 : Int) (w0 w : World) (hI : IsS58 w0 w g s0_0 s0_1) (hB : Below w0.heap.size w0 w) (h : flagstonedata_Source_Next.f s0_0 s0_1 a1 = some (r1, r2)) :
    Calls Try.prog 27 #[.pointer (some ⟨g, 0, none⟩), .int .i64 a1] w fun e w' => e = .returned (.int .i64 r1) ∧ IsS58 w0 w' g s0_0 r2 ∧ Below w0.heap.size w0 w' ∧ KeepBut w w' g none := by
  have HI0 := Aside0.mk hI
  have HK := Aside0.mk (KeepBut.refl w g none)
  have HL := Aside0.mk hB.size
  clear hI
  have HW0 := Aside0.mk hB.size
  have HB := Aside0.mk hB
  clear hB
  have H : (if s0_1 ≥ (s0_0.length : Int) then (some (0, s0_1)) else (if 0 ≤ (wrap64 ((wrap64 (s0_1 + 1)) - 1)) then (if (wrap64 ((wrap64 (s0_1 + 1)) - 1)) < (s0_0.length : Int) then (if a1 = 0 then (none) else (some (Int.tmod (wrap64 (rd s0_0 (wrap64 ((wrap64 (s0_1 + 1)) - 1)))) a1, wrap64 (s0_1 + 1)))) else (none)) else (none))) = some (r1, r2) := h
  clear h
  by_cases c3 : s0_1 ≥ (s0_0.length : Int)
  · rw [if_pos c3] at H
    have c3b0 : decide ((s0_0.length : Int) ≤ s0_1) = true := decide_eq_true c3
    clear c3
    simp only [Option.some.injEq, Prod.mk.injEq] at H
    obtain ⟨rfl, rfl⟩ := H
    obtain ⟨ASz4_0, cSz4_0, HGz4, hgz4, HSz4_0⟩ := HI0.out
    have hcz4_0 := cellS58_0 HGz4
    have hcz4_1 := cellS58_1 HGz4
    have hfz4_1 := blk_frozen HGz4 1
    clear HGz4 hgz4
    go_enter Try.func27, Try.ntmps27
    go_wp2
    repeat (go_quiet (fail); try go_wp2)
    go_ret
    exact ⟨by first | rfl | (simp [errW_none, errW_some] <;> rfl) | (simp [*, errW_none, errW_some] <;> rfl), by repeat (first | (with_reducible first | exact HI0.out | apply IsS58.alloc | apply IsS58.drewN | apply IsS58.drew | apply IsS58.set_1) | exact HI0.out), by repeat (first | (with_reducible first | exact HB.out | apply below_alloc | apply pw_below_drewN | apply below_drew1 | refine below_set ?_ (IsS58.ge HI0.out)) | exact HB.out), by repeat (first | (with_reducible first | exact HK.out | apply KeepBut.set_ | apply keep_drewN | apply keep_drew | apply keep_alloc) | exact HK.out)⟩
  · rw [if_neg c3] at H
    have c3b0 : decide ((s0_0.length : Int) ≤ s0_1) = false := decide_eq_false c3
    clear c3
    obtain ⟨ji5, hji5⟩ : ∃ j_ : Int, (wrap64 ((wrap64 (s0_1 + 1)) - 1)) = j_ := ⟨_, rfl⟩
    replace H : (if 0 ≤ (ji5) then (if (ji5) < (s0_0.length : Int) then (if a1 = 0 then (none) else (some (Int.tmod (wrap64 (rd s0_0 (ji5))) a1, wrap64 (s0_1 + 1)))) else (none)) else (none)) = some (r1, r2) := by first | (rw [hji5] at H; exact H) | (simp only [hji5] at H ⊢; exact H)
    have hji5w : (IntKind.i64.wrap ((wrap64 (s0_1 + 1)) - 1)) = ji5 := (i64_w _).trans hji5
    by_cases c6 : 0 ≤ (ji5)
    · rw [if_pos c6] at H
      have c6b0 : decide (0 ≤ (ji5)) = true := decide_eq_true c6
      clear c6
      by_cases c7 : (ji5) < (s0_0.length : Int)
      · rw [if_pos c7] at H
        have c7b0 : decide ((ji5) < (s0_0.length : Int)) = true := decide_eq_true c7
        clear c7
        by_cases c8 : a1 = 0
        · rw [if_pos c8] at H
          exact absurd H (by simp)
        · rw [if_neg c8] at H
          have c8b0 : (a1 == 0) = false := beq_eq_false_iff_ne.mpr c8
          have c8b1 : (a1 != 0) = true := bne_iff_ne.mpr c8
          simp only [Option.some.injEq, Prod.mk.injEq] at H
          obtain ⟨rfl, rfl⟩ := H
          obtain ⟨ASz9_0, cSz9_0, HGz9, hgz9, HSz9_0⟩ := HI0.out
          have hcz9_0 := cellS58_0 HGz9
          have hcz9_1 := cellS58_1 HGz9
          have hfz9_1 := blk_frozen HGz9 1
          clear HGz9 hgz9
          have p176 : 0 ≤ ((ji5) : Int) := of_decide_eq_true (by first | (with_reducible assumption) | assumption)
          have q176 : (ji5) < (s0_0.length : Int) := of_decide_eq_true (by first | (with_reducible assumption) | assumption)
          obtain ⟨ad176, e176, hx176_0⟩ := Kd.at_int HSz9_0 (ji5) p176 q176
          cases e176
          have hn176_0 : ad176.block ≠ g := Nat.ne_of_lt (Nat.lt_of_lt_of_le (by have := World.block_lt_of_cell? _ _ hx176_0; first | rwa [add_block] at this | exact this) (IsS58.ge HI0.out))
          replace hx176_0 := pw_cell_below HB.out hx176_0
          replace hx176_0 := (cell_far (p := ⟨g, 1, none⟩) (by first | (rw [add_block]; exact hn176_0) | (show (Addr.add _ _).block ≠ _; rw [add_block]; exact hn176_0) | exact hn176_0) (.int .i64 (wrap64 (s0_1 + 1)))).trans hx176_0
          (try have hy176_0 := fun (n_ : Nat) => (show (((w.drewN n_).setCell ⟨g, 1, none⟩ (.int .i64 (wrap64 (s0_1 + 1))))).cell? _ = some _ from hx176_0))
          clear hn176_0
          replace p176 := eq_true p176
          replace q176 := eq_true q176
          go_enter Try.func27, Try.ntmps27
          go_wp2
          repeat (go_quiet (fail); try go_wp2)
          go_ret
          exact ⟨by first | rfl | (simp [errW_none, errW_some] <;> rfl) | (simp only [← hji5]; first | rfl | (simp [errW_none, errW_some] <;> rfl)) | (simp [*, errW_none, errW_some] <;> rfl), by repeat (first | (with_reducible first | exact HI0.out | apply IsS58.alloc | apply IsS58.drewN | apply IsS58.drew | apply IsS58.set_1) | exact HI0.out), by repeat (first | (with_reducible first | exact HB.out | apply below_alloc | apply pw_below_drewN | apply below_drew1 | refine below_set ?_ (IsS58.ge HI0.out)) | exact HB.out), by repeat (first | (with_reducible first | exact HK.out | apply KeepBut.set_ | apply keep_drewN | apply keep_drew | apply keep_alloc) | exact HK.out)⟩
      · rw [if_neg c7] at H
        exact absurd H (by simp)
    · rw [if_neg c6] at H
      exact absurd H (by simp)

/-! ### flagstonedata_Samples: function 12 -/
mutual
def flagstonedata_Samples.l0 : Nat → Int → List (S34) → List Int → Int → Option ((List (S34)))
  | 0, _, _, _, _ => none
  | k + 1, x1, x6, x178000, x178001 => (flagstonedata_Source_More.f x178000 x178001).bind fun bt178 => (if bt178.1 = true then (flagstonedata_Samples.j1 k x1 x6 (decide ((x6.length : Int) < 40)) x178000 bt178.2) else (flagstonedata_Samples.j1 k x1 x6 false x178000 bt178.2))
def flagstonedata_Samples.j1 : Nat → Int → List (S34) → Bool → List Int → Int → Option ((List (S34)))
  | 0, _, _, _, _, _ => none
  | k + 1, x1, x6, x18, x178000, x178001 => if x18 = true then ((flagstonedata_Id.f (x6.length : Int)).bind fun t180 => ((flagstonedata_Source_Next.f x178000 x178001 2).bind fun bt181 => ((flagstonedata_Source_Next.f x178000 bt181.2 2).bind fun bt183 => ((flagstonedata_Source_Next.f x178000 bt183.2 256).bind fun bt186 => (if (wrap64 (x1 + 1)) = 0 then (none) else ((flagstonedata_Source_Next.f x178000 bt186.2 9).bind fun bt188 => ((flagstonedata_Source_Next.f x178000 bt188.2 5).bind fun bt190 => (if x6.length < 1466015503701 then (flagstonedata_Samples.l0 k x1 (x6 ++ [(⟨(⟨t180, (⟨#[97, 112, 112]⟩ : ByteArray), wrap64 ((x6.length : Int) + 1), (x6.length : Int), wrap64 (1 + bt181.1), wrap64 (1 + bt183.1)⟩ : S32), Int.tmod bt186.1 (wrap64 (x1 + 1)), bt188.1, bt190.1, false⟩ : S34)]) x178000 bt190.2) else (none))))))))) else (some x6)
end
def flagstonedata_Samples.f (k : Nat) (l0 : List Int) (a1 : Int) : Option ((List (S34))) := flagstonedata_Samples.l0 k a1 ([] : List (S34)) l0 0
theorem flagstonedata_Samples.mono_l : ∀ k, (∀ y0 y1 y2 y3, LeO (flagstonedata_Samples.l0 k y0 y1 y2 y3) (flagstonedata_Samples.l0 (k + 1) y0 y1 y2 y3)) ∧ (∀ y0 y1 y2 y3 y4, LeO (flagstonedata_Samples.j1 k y0 y1 y2 y3 y4) (flagstonedata_Samples.j1 (k + 1) y0 y1 y2 y3 y4))
  | 0 => ⟨fun _ _ _ _ r h => by simp [flagstonedata_Samples.l0] at h, fun _ _ _ _ _ r h => by simp [flagstonedata_Samples.j1] at h⟩
  | k + 1 => by
    obtain ⟨ih0, ih1⟩ := flagstonedata_Samples.mono_l k
    refine ⟨?_, ?_⟩
    · intro y0 y1 y2 y3
      unfold flagstonedata_Samples.l0
      repeat' first
      | (with_reducible exact ih0 _ _ _ _)
      | (with_reducible exact ih1 _ _ _ _ _)
      | (with_reducible exact LeO.refl _)
      | (with_reducible exact LeO.none _)
      | (with_reducible refine LeO.ite ?_ ?_)
      | (with_reducible refine LeO.bind ?_ (fun _ => ?_))
      | exact ih0 _ _ _ _
      | exact ih1 _ _ _ _ _
      | exact LeO.none _
      | refine LeO.ite ?_ ?_
      | refine LeO.bind ?_ (fun _ => ?_)
    · intro y0 y1 y2 y3 y4
      unfold flagstonedata_Samples.j1
      repeat' first
      | (with_reducible exact ih0 _ _ _ _)
      | (with_reducible exact ih1 _ _ _ _ _)
      | (with_reducible exact LeO.refl _)
      | (with_reducible exact LeO.none _)
      | (with_reducible refine LeO.ite ?_ ?_)
      | (with_reducible refine LeO.bind ?_ (fun _ => ?_))
      | exact ih0 _ _ _ _
      | exact ih1 _ _ _ _ _
      | exact LeO.none _
      | refine LeO.ite ?_ ?_
      | refine LeO.bind ?_ (fun _ => ?_)
theorem flagstonedata_Samples.mono : ∀ a0 a1 k, LeO (flagstonedata_Samples.f k a0 a1) (flagstonedata_Samples.f (k + 1) a0 a1) := by
  intro a0 a1 k
  obtain ⟨ih0, ih1⟩ := flagstonedata_Samples.mono_l k
  unfold flagstonedata_Samples.f
  repeat' first
      | (with_reducible exact ih0 _ _ _ _)
      | (with_reducible exact ih1 _ _ _ _ _)
      | (with_reducible exact LeO.refl _)
      | (with_reducible exact LeO.none _)
      | (with_reducible refine LeO.ite ?_ ?_)
      | (with_reducible refine LeO.bind ?_ (fun _ => ?_))
      | exact ih0 _ _ _ _
      | exact ih1 _ _ _ _ _
      | exact LeO.none _
      | refine LeO.ite ?_ ?_
      | refine LeO.bind ?_ (fun _ => ?_)
def flagstonedata_Samples.T6 : Bool × List (List Nat × List Nat) := (true, [([], []), ([], []), ([], []), ([2], [2]), ([], []), ([4], [4]), ([3, 5], [3, 5]), ([], []), ([7, 3], [7]), ([], []), ([9, 8], [9]), ([1, 6, 8, 10], [1, 6, 8, 10]), ([11], [11]), ([0, 12, 10], [0, 12]), ([13, 13, 0, 1, 2, 3, 4, 5, 6, 7, 8, 9, 10, 11, 12, 13], [0, 13])])
def flagstonedata_Samples.B6 : List Nat := [0, 0, 0, 4, 0, 16, 60, 0, 140, 0, 908, 2046, 4094, 8191, 16383]
theorem flagstonedata_Samples.tab6 : rtab .any (opsOf Try.f12 6) = flagstonedata_Samples.T6 := by kernel_rfl
theorem flagstonedata_Samples.bits6 : waitsOk flagstonedata_Samples.T6.2 flagstonedata_Samples.B6 = true := by kernel_rfl
set_option maxHeartbeats 8000000 in
set_option maxRecDepth 100000 in
theorem flagstonedata_Samples.calls (k : Nat) (A0 : Option Addr) (c0 : Nat) (l0 : List Int) (a1 : Int) (r : List (S34)) (w : World) (hr0 : Kd.C (Kd.int .u8) w A0 l0.length l0) (hc0 : l0.length ≤ c0) (h : flagstonedata_Samples.f k l0 a1 = some r) :
    Calls Try.prog 12 #[.slice A0 l0.length c0, .int .i64 a1] w fun e w' => ∃ v0_ : Value, e = .returned (v0_) ∧ Kd.R k34 34 w' w.heap.size (fun _ => True) v0_ r ∧ Below w.heap.size w w' := by
  have hu58 := Try.underlying58
  have hu32 := Try.underlying32
  have hu34 := Try.underlying34
  have HR0 := Aside0.mk hr0
  have HC0 := Aside0.mk hc0
  clear hr0 hc0
  have HB := Aside0.mk (Below.refl w.heap.size w)
  have H : (flagstonedata_Samples.l0 k a1 ([] : List (S34)) l0 0) = some r := h
  clear h
  have H' := Aside0.mk H
  clear H
  go_enter Try.func12, Try.ntmps12
  go_wp2_with (first | ((with_reducible refine gate_dst (N := 11) rfl ?_); (try (refine gate_guard (by rfl) ?_; dsimp only)); refine box_event ?hg (N := 11) ?hd (cs := #[.slice A0 l0.length c0, .int .i64 0]) (t := 58) ?hr ?_; (case hd => rfl); (case hg => rfl); (case hr => first | (go_simp; done) | (go_simp; rfl)); intro gb177 hg w3 hbox hb; have n0_ := Aside0.mk (below_step (by repeat (first | (with_reducible first | exact HB.out | apply below_alloc | apply pw_below_drewN | apply below_drew1) | exact HB.out)) hb); have n1_ := Aside0.mk ((by rw [hg]; exact (below_size (by repeat (first | (with_reducible first | exact HB.out | apply below_alloc | apply pw_below_drewN | apply below_drew1) | exact HB.out))) : w.heap.size ≤ gb177)); have n2_ := Aside0.mk ((by rw [hg]; exact (below_size (by repeat (first | (with_reducible first | exact HB.out | apply below_alloc | apply pw_below_drewN | apply below_drew1) | exact HB.out))) : w.heap.size ≤ gb177)); have n3_ := Aside0.mk ((⟨_, _, hbox, (by rw [hg]; exact (below_size (by repeat (first | (with_reducible first | exact HB.out | apply below_alloc | apply pw_below_drewN | apply below_drew1) | exact HB.out)))), HR0.out⟩ : IsS58 w w3 gb177 l0 0)); clear HB; have HB := n0_; have GW177 := n1_; have GE177 := n2_; have HI177 := n3_; clear n0_ n1_ n2_ n3_; clear hb hbox hg))
  go_loopg [6] k (fun kq v6 w' => ∃ (x6_1 : List (S34)) (x178001_1 : Int), Aside0 (flagstonedata_Samples.l0 kq a1 x6_1 l0 x178001_1 = some r) ∧ Aside0 (kq ≤ k) ∧ Aside0 (Kd.R k34 34 w' w.heap.size (fun _ => True) v6 x6_1) ∧ Aside0 (IsS58 w w' gb177 l0 x178001_1) ∧ Aside0 (Below w.heap.size w w'))
  case atStart => exact ⟨(([] : List (S34))), (0), H', ⟨Nat.le_refl _⟩, ⟨by first | exact Kd.R_nil _ _ _ _ _ | exact Kd.N_nil _ _ _ _ _ | exact Kd.V_nil _ _ _ _ _ | exact Kd.Q_nil _ _ _ _ _ | exact Kd.S_nil _ _ _ _ _⟩, ⟨by repeat (first | (with_reducible first | exact HI177.out | apply IsS58.alloc | apply IsS58.drewN | apply IsS58.drew | apply IsS58.set_1) | exact HI177.out)⟩, ⟨by repeat (first | (with_reducible first | exact HB.out | apply below_alloc | apply pw_below_drewN | apply below_drew1 | refine below_set ?_ (IsS58.ge HI177.out)) | exact HB.out)⟩⟩
  case round =>
    clear H'
    try clear c1
    try clear p2
    obtain ⟨x6_1, x178001_1, HA, HK1, HO_6, HI177, HB⟩ := hrel
    cases gk with
    | zero => exact absurd HA.out (by simp [flagstonedata_Samples.l0])
    | succ k1 =>
      have H := HA.out
      clear HA
      simp only [flagstonedata_Samples.l0] at H
      have HC4 := Aside0.mk H
      clear H
      go_upto_region 3 with (fail)
      go_cut [18] (fun v18 wc => ∃ (kq : Nat) (x18_3 : Bool) (x178001_3 : Int), v18 = .bool x18_3 ∧ Aside0 (flagstonedata_Samples.j1 kq a1 x6_1 x18_3 l0 x178001_3 = some r) ∧ Aside0 (kq ≤ k1) ∧ Aside0 (Kd.R k34 34 wc w.heap.size (fun _ => True) u6 x6_1) ∧ Aside0 (IsS58 w wc gb177 l0 x178001_3) ∧ Aside0 (Below w.heap.size w wc))
      case first =>
        have H := HC4.out
        clear HC4
        replace H := Option.bind_eq_some_iff.mp H
        obtain ⟨⟨t178, t179⟩, A50, H⟩ := H
        replace H : (if t178 = true then (flagstonedata_Samples.j1 k1 a1 x6_1 (decide ((x6_1.length : Int) < 40)) l0 t179) else (flagstonedata_Samples.j1 k1 a1 x6_1 false l0 t179)) = some r := H
        have A5 := Aside0.mk A50
        clear A50
        by_cases c6 : t178 = true
        · subst c6
          have H1 : (flagstonedata_Samples.j1 k1 a1 x6_1 (decide ((x6_1.length : Int) < 40)) l0 t179) = some r := by rw [if_pos rfl] at H; exact H
          clear H
          have H := H1
          clear H1
          have H' := Aside0.mk H
          clear H
          go_wp2_with (first | ((with_reducible refine gate_callee (f := 25) rfl ?_); refine goesL_ (some 13) rfl rfl Try.func25 (by kernel_rfl) rfl #[.pointer (some ⟨gb177, 0, none⟩)] rfl (by (try simp only [List.map_toArray, List.map_cons, List.map_nil]); first | done | rfl | (simp only [List.length_drop, List.length_take]; rfl)) ?_; (with_reducible refine (flagstonedata_Source_More.calls gb177 l0 x178001_1 true t179 w _ ?side1 ?side2 A5.out).mono ?_); (case side1 => repeat (first | (with_reducible first | exact HI177.out | apply IsS58.alloc | apply IsS58.drewN | apply IsS58.drew | apply IsS58.set_1) | exact HI177.out)); (case side2 => repeat (first | (with_reducible first | exact HB.out | apply below_alloc | apply pw_below_drewN | apply below_drew1 | refine below_set ?_ (IsS58.ge HI177.out)) | exact HB.out)); rintro e w7 ⟨rfl, hi, hb, hk⟩; refine ⟨_, rfl, ?_⟩; have n0_ := Aside0.mk (Kd.R_mono (Kd.R_keep (IsS58.apart (show IsS58 w _ gb177 l0 x178001_1 from by repeat (first | (with_reducible first | exact HI177.out | apply IsS58.alloc | apply IsS58.drewN | apply IsS58.drew | apply IsS58.set_1) | exact HI177.out)) (by (with_reducible repeat (first | apply Kd.R_alloc | apply Kd.R_drewN | apply Kd.R_drew)); exact HO_6.out) (by decide)) hk (fun _ h => h.2)) (fun _ h => h.1)); have n1_ := Aside0.mk (hb); have n2_ := Aside0.mk (hi); clear HO_6; clear HB; clear HI177; have HO_6 := n0_; have HB := n1_; have HI177 := n2_; clear n0_ n1_ n2_; (try clear hb); (try clear hb2); (try clear hk); (try clear hi); obtain ⟨Ao8, co8, eo8⟩ := Kd.R_slice HO_6.out; subst eo8))
          go_meet
          case rel => exact ⟨_, (decide ((x6_1.length : Int) < 40)), (t179), (by first | rfl | (simp; done) | (simp [*]; done) | exact congrArg (Value.int _) (by unfold wrap64; omega)), H', ⟨by have := HK1.out; first | omega | exact Nat.le_refl _⟩, ⟨by (with_reducible repeat (first | apply Kd.R_alloc | apply Kd.R_drewN | apply Kd.R_drew)); exact HO_6.out⟩, ⟨by repeat (first | (with_reducible first | exact HI177.out | apply IsS58.alloc | apply IsS58.drewN | apply IsS58.drew | apply IsS58.set_1) | exact HI177.out)⟩, ⟨by repeat (first | (with_reducible first | exact HB.out | apply below_alloc | apply pw_below_drewN | apply below_drew1 | refine below_set ?_ (IsS58.ge HI177.out)) | exact HB.out)⟩⟩
        · replace c6 := Bool.eq_false_iff.mpr c6
          subst c6
          have H1 : (flagstonedata_Samples.j1 k1 a1 x6_1 false l0 t179) = some r := by rw [if_neg (show ¬ (false = true) by decide)] at H; exact H
          clear H
          have H := H1
          clear H1
          have H' := Aside0.mk H
          clear H
          go_wp2_with (first | ((with_reducible refine gate_callee (f := 25) rfl ?_); refine goesL_ (some 13) rfl rfl Try.func25 (by kernel_rfl) rfl #[.pointer (some ⟨gb177, 0, none⟩)] rfl (by (try simp only [List.map_toArray, List.map_cons, List.map_nil]); first | done | rfl | (simp only [List.length_drop, List.length_take]; rfl)) ?_; (with_reducible refine (flagstonedata_Source_More.calls gb177 l0 x178001_1 false t179 w _ ?side1 ?side2 A5.out).mono ?_); (case side1 => repeat (first | (with_reducible first | exact HI177.out | apply IsS58.alloc | apply IsS58.drewN | apply IsS58.drew | apply IsS58.set_1) | exact HI177.out)); (case side2 => repeat (first | (with_reducible first | exact HB.out | apply below_alloc | apply pw_below_drewN | apply below_drew1 | refine below_set ?_ (IsS58.ge HI177.out)) | exact HB.out)); rintro e w9 ⟨rfl, hi, hb, hk⟩; refine ⟨_, rfl, ?_⟩; have n0_ := Aside0.mk (Kd.R_mono (Kd.R_keep (IsS58.apart (show IsS58 w _ gb177 l0 x178001_1 from by repeat (first | (with_reducible first | exact HI177.out | apply IsS58.alloc | apply IsS58.drewN | apply IsS58.drew | apply IsS58.set_1) | exact HI177.out)) (by (with_reducible repeat (first | apply Kd.R_alloc | apply Kd.R_drewN | apply Kd.R_drew)); exact HO_6.out) (by decide)) hk (fun _ h => h.2)) (fun _ h => h.1)); have n1_ := Aside0.mk (hb); have n2_ := Aside0.mk (hi); clear HO_6; clear HB; clear HI177; have HO_6 := n0_; have HB := n1_; have HI177 := n2_; clear n0_ n1_ n2_; (try clear hb); (try clear hb2); (try clear hk); (try clear hi)))
          go_meet
          case rel => exact ⟨_, (false), (t179), (by first | rfl | (simp; done) | (simp [*]; done) | exact congrArg (Value.int _) (by unfold wrap64; omega)), H', ⟨by have := HK1.out; first | omega | exact Nat.le_refl _⟩, ⟨by (with_reducible repeat (first | apply Kd.R_alloc | apply Kd.R_drewN | apply Kd.R_drew)); exact HO_6.out⟩, ⟨by repeat (first | (with_reducible first | exact HI177.out | apply IsS58.alloc | apply IsS58.drewN | apply IsS58.drew | apply IsS58.set_1) | exact HI177.out)⟩, ⟨by repeat (first | (with_reducible first | exact HB.out | apply below_alloc | apply pw_below_drewN | apply below_drew1 | refine below_set ?_ (IsS58.ge HI177.out)) | exact HB.out)⟩⟩
      case rest =>
        clear HC4
        try clear c1
        try clear c2
        try clear p2
        try clear c6
        try clear p6
        try clear p2
        obtain ⟨kq, x18_3, x178001_3, rfl, HA, HJ3, HO_6, HI177, HB⟩ := hcut
        cases kq with
        | zero => exact absurd HA.out (by simp [flagstonedata_Samples.j1])
        | succ kj3 =>
          have H := HA.out
          clear HA
          simp only [flagstonedata_Samples.j1] at H
          by_cases c10 : x18_3 = true
          · subst c10
            have H1 : ((flagstonedata_Id.f (x6_1.length : Int)).bind fun t180 => ((flagstonedata_Source_Next.f l0 x178001_3 2).bind fun bt181 => ((flagstonedata_Source_Next.f l0 bt181.2 2).bind fun bt183 => ((flagstonedata_Source_Next.f l0 bt183.2 256).bind fun bt186 => (if (wrap64 (a1 + 1)) = 0 then (none) else ((flagstonedata_Source_Next.f l0 bt186.2 9).bind fun bt188 => ((flagstonedata_Source_Next.f l0 bt188.2 5).bind fun bt190 => (if x6_1.length < 1466015503701 then (flagstonedata_Samples.l0 kj3 a1 (x6_1 ++ [(⟨(⟨t180, (⟨#[97, 112, 112]⟩ : ByteArray), wrap64 ((x6_1.length : Int) + 1), (x6_1.length : Int), wrap64 (1 + bt181.1), wrap64 (1 + bt183.1)⟩ : S32), Int.tmod bt186.1 (wrap64 (a1 + 1)), bt188.1, bt190.1, false⟩ : S34)]) l0 bt190.2) else (none))))))))) = some r := by rw [if_pos rfl] at H; exact H
            clear H
            have H := H1
            clear H1
            replace H := Option.bind_eq_some_iff.mp H
            obtain ⟨t180, A110, H⟩ := H
            replace H : ((flagstonedata_Source_Next.f l0 x178001_3 2).bind fun bt181 => ((flagstonedata_Source_Next.f l0 bt181.2 2).bind fun bt183 => ((flagstonedata_Source_Next.f l0 bt183.2 256).bind fun bt186 => (if (wrap64 (a1 + 1)) = 0 then (none) else ((flagstonedata_Source_Next.f l0 bt186.2 9).bind fun bt188 => ((flagstonedata_Source_Next.f l0 bt188.2 5).bind fun bt190 => (if x6_1.length < 1466015503701 then (flagstonedata_Samples.l0 kj3 a1 (x6_1 ++ [(⟨(⟨t180, (⟨#[97, 112, 112]⟩ : ByteArray), wrap64 ((x6_1.length : Int) + 1), (x6_1.length : Int), wrap64 (1 + bt181.1), wrap64 (1 + bt183.1)⟩ : S32), Int.tmod bt186.1 (wrap64 (a1 + 1)), bt188.1, bt190.1, false⟩ : S34)]) l0 bt190.2) else (none)))))))) = some r := H
            have A11 := Aside0.mk A110
            clear A110
            replace H := Option.bind_eq_some_iff.mp H
            obtain ⟨⟨t181, t182⟩, A120, H⟩ := H
            replace H : ((flagstonedata_Source_Next.f l0 t182 2).bind fun bt183 => ((flagstonedata_Source_Next.f l0 bt183.2 256).bind fun bt186 => (if (wrap64 (a1 + 1)) = 0 then (none) else ((flagstonedata_Source_Next.f l0 bt186.2 9).bind fun bt188 => ((flagstonedata_Source_Next.f l0 bt188.2 5).bind fun bt190 => (if x6_1.length < 1466015503701 then (flagstonedata_Samples.l0 kj3 a1 (x6_1 ++ [(⟨(⟨t180, (⟨#[97, 112, 112]⟩ : ByteArray), wrap64 ((x6_1.length : Int) + 1), (x6_1.length : Int), wrap64 (1 + t181), wrap64 (1 + bt183.1)⟩ : S32), Int.tmod bt186.1 (wrap64 (a1 + 1)), bt188.1, bt190.1, false⟩ : S34)]) l0 bt190.2) else (none))))))) = some r := H
            have A12 := Aside0.mk A120
            clear A120
            replace H := Option.bind_eq_some_iff.mp H
            obtain ⟨⟨t183, t184⟩, A130, H⟩ := H
            replace H : ((flagstonedata_Source_Next.f l0 t184 256).bind fun bt186 => (if (wrap64 (a1 + 1)) = 0 then (none) else ((flagstonedata_Source_Next.f l0 bt186.2 9).bind fun bt188 => ((flagstonedata_Source_Next.f l0 bt188.2 5).bind fun bt190 => (if x6_1.length < 1466015503701 then (flagstonedata_Samples.l0 kj3 a1 (x6_1 ++ [(⟨(⟨t180, (⟨#[97, 112, 112]⟩ : ByteArray), wrap64 ((x6_1.length : Int) + 1), (x6_1.length : Int), wrap64 (1 + t181), wrap64 (1 + t183)⟩ : S32), Int.tmod bt186.1 (wrap64 (a1 + 1)), bt188.1, bt190.1, false⟩ : S34)]) l0 bt190.2) else (none)))))) = some r := H
            have A13 := Aside0.mk A130
            clear A130
            replace H := Option.bind_eq_some_iff.mp H
            obtain ⟨⟨t186, t187⟩, A140, H⟩ := H
            replace H : (if (wrap64 (a1 + 1)) = 0 then (none) else ((flagstonedata_Source_Next.f l0 t187 9).bind fun bt188 => ((flagstonedata_Source_Next.f l0 bt188.2 5).bind fun bt190 => (if x6_1.length < 1466015503701 then (flagstonedata_Samples.l0 kj3 a1 (x6_1 ++ [(⟨(⟨t180, (⟨#[97, 112, 112]⟩ : ByteArray), wrap64 ((x6_1.length : Int) + 1), (x6_1.length : Int), wrap64 (1 + t181), wrap64 (1 + t183)⟩ : S32), Int.tmod t186 (wrap64 (a1 + 1)), bt188.1, bt190.1, false⟩ : S34)]) l0 bt190.2) else (none))))) = some r := H
            have A14 := Aside0.mk A140
            clear A140
            by_cases c15 : (wrap64 (a1 + 1)) = 0
            · rw [if_pos c15] at H
              exact absurd H (by simp)
            · rw [if_neg c15] at H
              have c15b0 : ((wrap64 (a1 + 1)) == 0) = false := beq_eq_false_iff_ne.mpr c15
              have c15b1 : ((wrap64 (a1 + 1)) != 0) = true := bne_iff_ne.mpr c15
              replace H := Option.bind_eq_some_iff.mp H
              obtain ⟨⟨t188, t189⟩, A160, H⟩ := H
              replace H : ((flagstonedata_Source_Next.f l0 t189 5).bind fun bt190 => (if x6_1.length < 1466015503701 then (flagstonedata_Samples.l0 kj3 a1 (x6_1 ++ [(⟨(⟨t180, (⟨#[97, 112, 112]⟩ : ByteArray), wrap64 ((x6_1.length : Int) + 1), (x6_1.length : Int), wrap64 (1 + t181), wrap64 (1 + t183)⟩ : S32), Int.tmod t186 (wrap64 (a1 + 1)), t188, bt190.1, false⟩ : S34)]) l0 bt190.2) else (none))) = some r := H
              have A16 := Aside0.mk A160
              clear A160
              replace H := Option.bind_eq_some_iff.mp H
              obtain ⟨⟨t190, t191⟩, A170, H⟩ := H
              replace H : (if x6_1.length < 1466015503701 then (flagstonedata_Samples.l0 kj3 a1 (x6_1 ++ [(⟨(⟨t180, (⟨#[97, 112, 112]⟩ : ByteArray), wrap64 ((x6_1.length : Int) + 1), (x6_1.length : Int), wrap64 (1 + t181), wrap64 (1 + t183)⟩ : S32), Int.tmod t186 (wrap64 (a1 + 1)), t188, t190, false⟩ : S34)]) l0 t191) else (none)) = some r := H
              have A17 := Aside0.mk A170
              clear A170
              by_cases c18 : x6_1.length < 1466015503701
              · rw [if_pos c18] at H
                have LMc18 := Aside0.mk c18
                clear c18
                obtain ⟨y192, hy192⟩ : ∃ y_ : List (S34), y_ = (x6_1 ++ [(⟨(⟨t180, (⟨#[97, 112, 112]⟩ : ByteArray), wrap64 ((x6_1.length : Int) + 1), (x6_1.length : Int), wrap64 (1 + t181), wrap64 (1 + t183)⟩ : S32), Int.tmod t186 (wrap64 (a1 + 1)), t188, t190, false⟩ : S34)]) := ⟨_, rfl⟩
                replace H : (flagstonedata_Samples.l0 kj3 a1 y192 l0 t191) = some r := by first | (rw [hy192]; with_reducible exact H) | (have H2_ := (Option.bind_some _ _).symm.trans H; rw [hy192]; with_reducible exact H2_) | (have H2_ := (Option.bind_some _ _).symm.trans H; with_reducible exact H2_) | with_reducible exact H | (rw [hy192]; exact H) | exact H
                have Ny192 := Aside0.mk hy192
                clear hy192
                have H' := Aside0.mk H
                clear H
                obtain ⟨Ao19, co19, eo19⟩ := Kd.R_slice HO_6.out
                subst eo19
                try go_wp2_with (first | ((with_reducible refine gate_callee (f := 26) rfl ?_); refine goesL_ (some 22) rfl rfl Try.func26 (by kernel_rfl) rfl #[.int .i64 (x6_1.length : Int)] rfl (by (try simp only [List.map_toArray, List.map_cons, List.map_nil]); first | done | rfl | (simp only [List.length_drop, List.length_take]; rfl)) ?_; (with_reducible refine (flagstonedata_Id.calls (x6_1.length : Int) t180 _ A11.out).mono ?_); rintro e w20 ⟨rfl, hb⟩; refine ⟨_, rfl, ?_⟩; have n0_ := Aside0.mk (Kd.R_below (by (with_reducible repeat (first | apply Kd.R_alloc | apply Kd.R_drewN | apply Kd.R_drew)); exact HO_6.out) hb); have n1_ := Aside0.mk (IsS58.below (by repeat (first | (with_reducible first | exact HI177.out | apply IsS58.alloc | apply IsS58.drewN | apply IsS58.drew | apply IsS58.set_1) | exact HI177.out)) hb); have n2_ := Aside0.mk (below_step (by repeat (first | (with_reducible first | exact HB.out | apply below_alloc | apply pw_below_drewN | apply below_drew1 | refine below_set ?_ (IsS58.ge HI177.out)) | exact HB.out)) hb); clear HO_6; clear HI177; clear HB; have HO_6 := n0_; have HI177 := n1_; have HB := n2_; clear n0_ n1_ n2_; (try clear hb); (try clear hb2); (try clear hk); (try clear hi)) | ((with_reducible refine gate_callee (f := 27) rfl ?_); refine goesL_ (some 27) rfl rfl Try.func27 (by kernel_rfl) rfl #[.pointer (some ⟨gb177, 0, none⟩), .int .i64 2] rfl (by (try simp only [List.map_toArray, List.map_cons, List.map_nil]); first | done | rfl | (simp only [List.length_drop, List.length_take]; rfl)) ?_; (with_reducible refine (flagstonedata_Source_Next.calls gb177 l0 x178001_3 2 t181 t182 w _ ?side1 ?side2 A12.out).mono ?_); (case side1 => repeat (first | (with_reducible first | exact HI177.out | apply IsS58.alloc | apply IsS58.drewN | apply IsS58.drew | apply IsS58.set_1) | exact HI177.out)); (case side2 => repeat (first | (with_reducible first | exact HB.out | apply below_alloc | apply pw_below_drewN | apply below_drew1 | refine below_set ?_ (IsS58.ge HI177.out)) | exact HB.out)); rintro e w21 ⟨rfl, hi, hb, hk⟩; refine ⟨_, rfl, ?_⟩; have n0_ := Aside0.mk (Kd.R_mono (Kd.R_keep (IsS58.apart (show IsS58 w _ gb177 l0 x178001_3 from by repeat (first | (with_reducible first | exact HI177.out | apply IsS58.alloc | apply IsS58.drewN | apply IsS58.drew | apply IsS58.set_1) | exact HI177.out)) (by (with_reducible repeat (first | apply Kd.R_alloc | apply Kd.R_drewN | apply Kd.R_drew)); exact HO_6.out) (by decide)) hk (fun _ h => h.2)) (fun _ h => h.1)); have n1_ := Aside0.mk (hb); have n2_ := Aside0.mk (hi); clear HO_6; clear HB; clear HI177; have HO_6 := n0_; have HB := n1_; have HI177 := n2_; clear n0_ n1_ n2_; (try clear hb); (try clear hb2); (try clear hk); (try clear hi)) | ((with_reducible refine gate_callee (f := 27) rfl ?_); refine goesL_ (some 30) rfl rfl Try.func27 (by kernel_rfl) rfl #[.pointer (some ⟨gb177, 0, none⟩), .int .i64 2] rfl (by (try simp only [List.map_toArray, List.map_cons, List.map_nil]); first | done | rfl | (simp only [List.length_drop, List.length_take]; rfl)) ?_; (with_reducible refine (flagstonedata_Source_Next.calls gb177 l0 t182 2 t183 t184 w _ ?side1 ?side2 A13.out).mono ?_); (case side1 => repeat (first | (with_reducible first | exact HI177.out | apply IsS58.alloc | apply IsS58.drewN | apply IsS58.drew | apply IsS58.set_1) | exact HI177.out)); (case side2 => repeat (first | (with_reducible first | exact HB.out | apply below_alloc | apply pw_below_drewN | apply below_drew1 | refine below_set ?_ (IsS58.ge HI177.out)) | exact HB.out)); rintro e w22 ⟨rfl, hi, hb, hk⟩; refine ⟨_, rfl, ?_⟩; have n0_ := Aside0.mk (Kd.R_mono (Kd.R_keep (IsS58.apart (show IsS58 w _ gb177 l0 t182 from by repeat (first | (with_reducible first | exact HI177.out | apply IsS58.alloc | apply IsS58.drewN | apply IsS58.drew | apply IsS58.set_1) | exact HI177.out)) (by (with_reducible repeat (first | apply Kd.R_alloc | apply Kd.R_drewN | apply Kd.R_drew)); exact HO_6.out) (by decide)) hk (fun _ h => h.2)) (fun _ h => h.1)); have n1_ := Aside0.mk (hb); have n2_ := Aside0.mk (hi); clear HO_6; clear HB; clear HI177; have HO_6 := n0_; have HB := n1_; have HI177 := n2_; clear n0_ n1_ n2_; (try clear hb); (try clear hb2); (try clear hk); (try clear hi)) | ((with_reducible refine gate_dst (N := 8) rfl ?_); (try (refine gate_guard (by rfl) ?_; dsimp only)); refine box_event ?hg (N := 8) ?hd (cs := #[.string (⟨#[]⟩ : ByteArray), .string (⟨#[]⟩ : ByteArray), .int .i64 0, .int .i64 0, .int .i64 0, .int .i64 0]) (t := 32) ?hr ?_; (case hd => rfl); (case hg => rfl); (case hr => first | (go_simp; done) | (go_simp; rfl)); intro gb185 hg w23 hbox hb; have n0_ := Aside0.mk (Kd.R_below (by (with_reducible repeat (first | apply Kd.R_alloc | apply Kd.R_drewN | apply Kd.R_drew)); exact HO_6.out) hb); have n1_ := Aside0.mk (IsS58.below (by repeat (first | (with_reducible first | exact HI177.out | apply IsS58.alloc | apply IsS58.drewN | apply IsS58.drew | apply IsS58.set_1) | exact HI177.out)) hb); have n2_ := Aside0.mk (below_step (by repeat (first | (with_reducible first | exact HB.out | apply below_alloc | apply pw_below_drewN | apply below_drew1 | refine below_set ?_ (IsS58.ge HI177.out)) | exact HB.out)) hb); have n3_ := Aside0.mk (hbox); have n4_ := Aside0.mk ((by rw [hg]; exact (below_size (by repeat (first | (with_reducible first | exact HB.out | apply below_alloc | apply pw_below_drewN | apply below_drew1 | refine below_set ?_ (IsS58.ge HI177.out)) | exact HB.out))) : w.heap.size ≤ gb185)); have n5_ := Aside0.mk ((by rw [hg]; exact (below_size (by repeat (first | (with_reducible first | exact HB.out | apply below_alloc | apply pw_below_drewN | apply below_drew1 | refine below_set ?_ (IsS58.ge HI177.out)) | exact HB.out))) : w.heap.size ≤ gb185)); have n6_ := Aside0.mk ((by rw [hg]; exact Nat.ne_of_lt (IsS58.lt (show IsS58 w _ gb177 l0 t184 from by repeat (first | (with_reducible first | exact HI177.out | apply IsS58.alloc | apply IsS58.drewN | apply IsS58.drew | apply IsS58.set_1) | exact HI177.out))) : gb177 ≠ gb185)); have n7_ := Aside0.mk ((by rw [hg]; exact Nat.ne_of_gt (IsS58.lt (show IsS58 w _ gb177 l0 t184 from by repeat (first | (with_reducible first | exact HI177.out | apply IsS58.alloc | apply IsS58.drewN | apply IsS58.drew | apply IsS58.set_1) | exact HI177.out))) : gb185 ≠ gb177)); clear HO_6; clear HI177; clear HB; have HO_6 := n0_; have HI177 := n1_; have HB := n2_; have BK185 := n3_; have GW185 := n4_; have GE185 := n5_; have NB177_185 := n6_; have NB185_177 := n7_; clear n0_ n1_ n2_ n3_ n4_ n5_ n6_ n7_; clear hb hbox hg; have hnb24 := NB185_177.out; have hnc24 := NB177_185.out; have hcz25_0 : w23.cell? ⟨gb185, 0, none⟩ = some (.string (⟨#[]⟩ : ByteArray)) := (blk_cell BK185.out 0).trans rfl; have hcz25_1 : w23.cell? ⟨gb185, 1, none⟩ = some (.string (⟨#[]⟩ : ByteArray)) := (blk_cell BK185.out 1).trans rfl; have hcz25_2 : w23.cell? ⟨gb185, 2, none⟩ = some (.int .i64 0) := (blk_cell BK185.out 2).trans rfl; have hcz25_3 : w23.cell? ⟨gb185, 3, none⟩ = some (.int .i64 0) := (blk_cell BK185.out 3).trans rfl; have hcz25_4 : w23.cell? ⟨gb185, 4, none⟩ = some (.int .i64 0) := (blk_cell BK185.out 4).trans rfl; have hcz25_5 : w23.cell? ⟨gb185, 5, none⟩ = some (.int .i64 0) := (blk_cell BK185.out 5).trans rfl; have hfz25_0 := blk_frozen BK185.out 0; have hfz25_1 := blk_frozen BK185.out 1; have hfz25_2 := blk_frozen BK185.out 2; have hfz25_3 := blk_frozen BK185.out 3; have hfz25_4 := blk_frozen BK185.out 4; have hfz25_5 := blk_frozen BK185.out 5))
                have n0_ : Aside0 (Kd.R k34 34 ((((((w23.setCell ⟨gb185, 0, none⟩ (.string t180)).setCell ⟨gb185, 1, none⟩ (.string (⟨#[97, 112, 112]⟩ : ByteArray))).setCell ⟨gb185, 2, none⟩ (.int .i64 (wrap64 ((x6_1.length : Int) + 1)))).setCell ⟨gb185, 3, none⟩ (.int .i64 (x6_1.length : Int))).setCell ⟨gb185, 4, none⟩ (.int .i64 (wrap64 (1 + t181)))).setCell ⟨gb185, 5, none⟩ (.int .i64 (wrap64 (1 + t183)))) w.heap.size (fun _ => True) (.slice Ao19 x6_1.length co19) x6_1) := ⟨by (with_reducible repeat (first | apply Kd.R_alloc | apply Kd.R_drewN | apply Kd.R_drew)); exact Kd.R_mono (Kd.R_far (p := ⟨gb185, 5, none⟩) (Kd.R_far (p := ⟨gb185, 4, none⟩) (Kd.R_far (p := ⟨gb185, 3, none⟩) (Kd.R_far (p := ⟨gb185, 2, none⟩) (Kd.R_far (p := ⟨gb185, 1, none⟩) (Kd.R_far (p := ⟨gb185, 0, none⟩) (Kd.R_types HO_6.out BK185.out (by decide)) (fun _ hk => hk.2) (.string t180)) (fun _ hk => hk.2) (.string (⟨#[97, 112, 112]⟩ : ByteArray))) (fun _ hk => hk.2) (.int .i64 (wrap64 ((x6_1.length : Int) + 1)))) (fun _ hk => hk.2) (.int .i64 (x6_1.length : Int))) (fun _ hk => hk.2) (.int .i64 (wrap64 (1 + t181)))) (fun _ hk => hk.2) (.int .i64 (wrap64 (1 + t183)))) (fun _ hk => trivial)⟩
                have n1_ : Aside0 (((((((w23.setCell ⟨gb185, 0, none⟩ (.string t180)).setCell ⟨gb185, 1, none⟩ (.string (⟨#[97, 112, 112]⟩ : ByteArray))).setCell ⟨gb185, 2, none⟩ (.int .i64 (wrap64 ((x6_1.length : Int) + 1)))).setCell ⟨gb185, 3, none⟩ (.int .i64 (x6_1.length : Int))).setCell ⟨gb185, 4, none⟩ (.int .i64 (wrap64 (1 + t181)))).setCell ⟨gb185, 5, none⟩ (.int .i64 (wrap64 (1 + t183)))).heap[gb185]? = some (.cells #[.string t180, .string (⟨#[97, 112, 112]⟩ : ByteArray), .int .i64 (wrap64 ((x6_1.length : Int) + 1)), .int .i64 (x6_1.length : Int), .int .i64 (wrap64 (1 + t181)), .int .i64 (wrap64 (1 + t183))] 32 (0, 0))) := ⟨by (with_reducible repeat (first | refine blk_drewN ?_ _ | refine blk_drew ?_ | refine blk_alloc ?_ _)); refine blk_put (cs := #[.string t180, .string (⟨#[97, 112, 112]⟩ : ByteArray), .int .i64 (wrap64 ((x6_1.length : Int) + 1)), .int .i64 (x6_1.length : Int), .int .i64 (wrap64 (1 + t181)), .int .i64 0]) ?_ 5 _ rfl; (with_reducible repeat (first | refine blk_drewN ?_ _ | refine blk_drew ?_ | refine blk_alloc ?_ _)); refine blk_put (cs := #[.string t180, .string (⟨#[97, 112, 112]⟩ : ByteArray), .int .i64 (wrap64 ((x6_1.length : Int) + 1)), .int .i64 (x6_1.length : Int), .int .i64 0, .int .i64 0]) ?_ 4 _ rfl; (with_reducible repeat (first | refine blk_drewN ?_ _ | refine blk_drew ?_ | refine blk_alloc ?_ _)); refine blk_put (cs := #[.string t180, .string (⟨#[97, 112, 112]⟩ : ByteArray), .int .i64 (wrap64 ((x6_1.length : Int) + 1)), .int .i64 0, .int .i64 0, .int .i64 0]) ?_ 3 _ rfl; (with_reducible repeat (first | refine blk_drewN ?_ _ | refine blk_drew ?_ | refine blk_alloc ?_ _)); refine blk_put (cs := #[.string t180, .string (⟨#[97, 112, 112]⟩ : ByteArray), .int .i64 0, .int .i64 0, .int .i64 0, .int .i64 0]) ?_ 2 _ rfl; (with_reducible repeat (first | refine blk_drewN ?_ _ | refine blk_drew ?_ | refine blk_alloc ?_ _)); refine blk_put (cs := #[.string t180, .string (⟨#[]⟩ : ByteArray), .int .i64 0, .int .i64 0, .int .i64 0, .int .i64 0]) ?_ 1 _ rfl; (with_reducible repeat (first | refine blk_drewN ?_ _ | refine blk_drew ?_ | refine blk_alloc ?_ _)); refine blk_put (cs := #[.string (⟨#[]⟩ : ByteArray), .string (⟨#[]⟩ : ByteArray), .int .i64 0, .int .i64 0, .int .i64 0, .int .i64 0]) ?_ 0 _ rfl; (with_reducible repeat (first | refine blk_drewN ?_ _ | refine blk_drew ?_ | refine blk_alloc ?_ _)); exact BK185.out⟩
                have n2_ : Aside0 (IsS58 w ((((((w23.setCell ⟨gb185, 0, none⟩ (.string t180)).setCell ⟨gb185, 1, none⟩ (.string (⟨#[97, 112, 112]⟩ : ByteArray))).setCell ⟨gb185, 2, none⟩ (.int .i64 (wrap64 ((x6_1.length : Int) + 1)))).setCell ⟨gb185, 3, none⟩ (.int .i64 (x6_1.length : Int))).setCell ⟨gb185, 4, none⟩ (.int .i64 (wrap64 (1 + t181)))).setCell ⟨gb185, 5, none⟩ (.int .i64 (wrap64 (1 + t183)))) gb177 l0 t184) := ⟨by repeat (first | (with_reducible first | exact HI177.out | apply IsS58.alloc | apply IsS58.drewN | apply IsS58.drew | apply IsS58.set_1 | refine IsS58.far ?_ NB177_185.out _) | exact HI177.out)⟩
                have n3_ : Aside0 (Below w.heap.size w ((((((w23.setCell ⟨gb185, 0, none⟩ (.string t180)).setCell ⟨gb185, 1, none⟩ (.string (⟨#[97, 112, 112]⟩ : ByteArray))).setCell ⟨gb185, 2, none⟩ (.int .i64 (wrap64 ((x6_1.length : Int) + 1)))).setCell ⟨gb185, 3, none⟩ (.int .i64 (x6_1.length : Int))).setCell ⟨gb185, 4, none⟩ (.int .i64 (wrap64 (1 + t181)))).setCell ⟨gb185, 5, none⟩ (.int .i64 (wrap64 (1 + t183))))) := ⟨by repeat (first | (with_reducible first | exact HB.out | apply below_alloc | apply pw_below_drewN | apply below_drew1 | refine below_set ?_ (IsS58.ge HI177.out) | refine below_set ?_ GE185.out) | exact HB.out)⟩
                (try clear HO_6)
                (try clear BK185)
                (try clear HI177)
                (try clear HB)
                generalize ((((((w23.setCell ⟨gb185, 0, none⟩ (.string t180)).setCell ⟨gb185, 1, none⟩ (.string (⟨#[97, 112, 112]⟩ : ByteArray))).setCell ⟨gb185, 2, none⟩ (.int .i64 (wrap64 ((x6_1.length : Int) + 1)))).setCell ⟨gb185, 3, none⟩ (.int .i64 (x6_1.length : Int))).setCell ⟨gb185, 4, none⟩ (.int .i64 (wrap64 (1 + t181)))).setCell ⟨gb185, 5, none⟩ (.int .i64 (wrap64 (1 + t183)))) = w26 at n0_ n1_ n2_ n3_ ⊢
                have HO_6 := n0_
                have BK185 := n1_
                have HI177 := n2_
                have HB := n3_
                clear n0_ n1_ n2_ n3_
                have n0_ := Aside0.mk (Kd.R_drew HO_6.out)
                have n1_ := Aside0.mk (blk_drew BK185.out)
                have n2_ := Aside0.mk (IsS58.drew HI177.out)
                have n3_ := Aside0.mk (below_drew1 HB.out)
                clear HO_6
                clear BK185
                clear HI177
                clear HB
                have HO_6 := n0_
                have BK185 := n1_
                have HI177 := n2_
                have HB := n3_
                clear n0_ n1_ n2_ n3_
                refine start_ (n := 15) (S := fun w' => w'.cell? ⟨gb185, 0, none⟩ = some (.string t180) ∧ w'.cell? ⟨gb185, 1, none⟩ = some (.string (⟨#[97, 112, 112]⟩ : ByteArray)) ∧ w'.cell? ⟨gb185, 2, none⟩ = some (.int .i64 (wrap64 ((x6_1.length : Int) + 1))) ∧ w'.cell? ⟨gb185, 3, none⟩ = some (.int .i64 (x6_1.length : Int)) ∧ w'.cell? ⟨gb185, 4, none⟩ = some (.int .i64 (wrap64 (1 + t181))) ∧ w'.cell? ⟨gb185, 5, none⟩ = some (.int .i64 (wrap64 (1 + t183)))) (ds := []) #[false, false, false, false, false, false, false, false, false, false, false, false, false, false, false] (by kernel_rfl) rfl rfl ⟨(blk_cell BK185.out 0).trans rfl, (blk_cell BK185.out 1).trans rfl, (blk_cell BK185.out 2).trans rfl, (blk_cell BK185.out 3).trans rfl, (blk_cell BK185.out 4).trans rfl, (blk_cell BK185.out 5).trans rfl⟩ (fun hHeld => ?_); refine with_tabW flagstonedata_Samples.tab6 flagstonedata_Samples.bits6 (fun HT_ HW_ => ?_)
                generalize w26.drew = w27 at HO_6 BK185 HI177 HB hHeld ⊢
                refine pure_ (i := 0) (N := some 33) (v := ?_) (a' := ?_) #[true, false, false, false, false, false, false, false, false, false, false, false, false, false, false] rfl rfl (any_of HT_.out (by kernel_rfl)) (fun _ _ _ h => h) (Or.inl ⟨by rfl, ?_⟩) ?_ ?_
                rotate_left
                · intro w'
                  go_simp
                  with_reducible rfl
                rotate_left
                · simp only [Act.put, List.setIfInBounds_toArray, List.set_cons_zero, List.set_cons_succ, i64_w, i32_w]
                  rfl
                refine pure_ (i := 2) (N := some 35) (v := ?_) (a' := ?_) #[true, false, true, false, false, false, false, false, false, false, false, false, false, false, false] rfl rfl (any_of HT_.out (by kernel_rfl)) (fun _ _ _ h => h) (Or.inl ⟨by rfl, ?_⟩) ?_ ?_
                rotate_left
                · intro w'
                  go_simp
                  with_reducible rfl
                rotate_left
                · simp only [Act.put, List.setIfInBounds_toArray, List.set_cons_zero, List.set_cons_succ, i64_w, i32_w]
                  rfl
                refine pure_ (i := 4) (N := some 37) (v := ?_) (a' := ?_) #[true, false, true, false, true, false, false, false, false, false, false, false, false, false, false] rfl rfl (any_of HT_.out (by kernel_rfl)) (fun _ _ _ h => h) (Or.inl ⟨by rfl, ?_⟩) ?_ ?_
                rotate_left
                · intro w'
                  go_simp
                  with_reducible rfl
                rotate_left
                · simp only [Act.put, List.setIfInBounds_toArray, List.set_cons_zero, List.set_cons_succ, i64_w, i32_w]
                  rfl
                refine pure_ (i := 5) (N := some 38) (v := ?_) (a' := ?_) #[true, false, true, false, true, true, false, false, false, false, false, false, false, false, false] rfl rfl (any_of HT_.out (by kernel_rfl)) (fun _ _ _ h => h) (Or.inl ⟨by rfl, ?_⟩) ?_ ?_
                rotate_left
                · intro w'
                  go_simp
                  with_reducible rfl
                rotate_left
                · simp only [Act.put, List.setIfInBounds_toArray, List.set_cons_zero, List.set_cons_succ, i64_w, i32_w]
                  rfl
                refine pure_ (i := 7) (N := some 40) (v := ?_) (a' := ?_) #[true, false, true, false, true, true, false, true, false, false, false, false, false, false, false] rfl rfl (any_of HT_.out (by kernel_rfl)) (fun _ _ _ h => h) (Or.inl ⟨by rfl, ?_⟩) ?_ ?_
                rotate_left
                · intro w'
                  go_simp
                  with_reducible rfl
                rotate_left
                · simp only [Act.put, List.setIfInBounds_toArray, List.set_cons_zero, List.set_cons_succ, i64_w, i32_w]
                  rfl
                refine pure_ (i := 9) (N := some 42) (v := ?_) (a' := ?_) #[true, false, true, false, true, true, false, true, false, true, false, false, false, false, false] rfl rfl (any_of HT_.out (by kernel_rfl)) (fun _ _ _ h => h) (Or.inl ⟨by rfl, ?_⟩) ?_ ?_
                rotate_left
                · intro w'
                  go_simp
                  with_reducible rfl
                rotate_left
                · simp only [Act.put, List.setIfInBounds_toArray, List.set_cons_zero, List.set_cons_succ, i64_w, i32_w]
                  rfl
                refine take_ (i := 1) (N := some 34) (v := ?_) (a' := ?_) #[true, true, true, false, true, true, false, true, false, true, false, false, false, false, false] rfl rfl (take_ofW HT_.out HW_.out (by kernel_rfl)) (fun _ _ _ h => h) (Or.inl ⟨by rfl, ?_⟩) hHeld ?_ ?_
                rotate_left
                · rintro w' ⟨s0, s1, s2, s3, s4, s5⟩
                  go_simp
                  with_reducible rfl
                rotate_left
                · simp only [Act.put, List.setIfInBounds_toArray, List.set_cons_zero, List.set_cons_succ, i64_w, i32_w]
                  rfl
                refine one_ (i := 3) (N := some 36) #[true, true, true, true, true, true, false, true, false, true, false, false, false, false, false] rfl rfl (one_of HT_.out (by kernel_rfl)) (by decide) (fun K hK => ?_)
                refine goes_ Try.func27 (by kernel_rfl) rfl #[.pointer (some ⟨gb177, 0, none⟩), .int .i64 256] (by rfl) rfl rfl (by (try simp only [List.map_toArray, List.map_cons, List.map_nil]); first | done | rfl | (simp only [List.length_drop, List.length_take]; rfl)) ?_
                with_reducible refine (flagstonedata_Source_Next.calls gb177 l0 t184 256 t186 t187 w _ ?side1 ?side2 A14.out).mono ?_
                (case side1 => repeat (first | (with_reducible first | exact HI177.out | apply IsS58.alloc | apply IsS58.drewN | apply IsS58.drew | apply IsS58.set_1 | refine IsS58.far ?_ NB177_185.out _) | exact HI177.out))
                (case side2 => repeat (first | (with_reducible first | exact HB.out | apply below_alloc | apply pw_below_drewN | apply below_drew1 | refine below_set ?_ (IsS58.ge HI177.out) | refine below_set ?_ GE185.out) | exact HB.out))
                rintro e w28 ⟨rfl, hi, hb, hk⟩
                refine ⟨_, rfl, ?_⟩
                have n0_ := Aside0.mk (Kd.R_mono (Kd.R_keep (IsS58.apart (show IsS58 w _ gb177 l0 t184 from by repeat (first | (with_reducible first | exact HI177.out | apply IsS58.alloc | apply IsS58.drewN | apply IsS58.drew | apply IsS58.set_1 | refine IsS58.far ?_ NB177_185.out _) | exact HI177.out)) (by (with_reducible repeat (first | apply Kd.R_alloc | apply Kd.R_drewN | apply Kd.R_drew)); exact HO_6.out) (by decide)) hk (fun _ h => h.2)) (fun _ h => h.1))
                have n1_ := Aside0.mk (KeepBut.blk hk (g' := gb185) (o := .cells #[.string t180, .string (⟨#[97, 112, 112]⟩ : ByteArray), .int .i64 (wrap64 ((x6_1.length : Int) + 1)), .int .i64 (x6_1.length : Int), .int .i64 (wrap64 (1 + t181)), .int .i64 (wrap64 (1 + t183))] 32 (0, 0)) (by (with_reducible repeat (first | refine blk_drewN ?_ _ | refine blk_drew ?_ | refine blk_alloc ?_ _)); exact BK185.out) NB185_177.out (by simp))
                have n2_ := Aside0.mk (hb)
                have n3_ := Aside0.mk (hi)
                clear HO_6
                clear BK185
                clear HB
                clear HI177
                have HO_6 := n0_
                have BK185 := n1_
                have HB := n2_
                have HI177 := n3_
                clear n0_ n1_ n2_ n3_
                (try clear hb)
                (try clear hb2)
                (try clear hk)
                (try clear hi)
                refine hK.out _ _ ⟨(blk_cell BK185.out 0).trans rfl, (blk_cell BK185.out 1).trans rfl, (blk_cell BK185.out 2).trans rfl, (blk_cell BK185.out 3).trans rfl, (blk_cell BK185.out 4).trans rfl, (blk_cell BK185.out 5).trans rfl⟩ (fun hHeld => ?_)
                clear hK K
                refine norm_ (a' := ?_) ?_ ?_
                rotate_left
                · show Act.put _ (some 36) _ = _
                  simp only [Act.put, List.setIfInBounds_toArray, List.set_cons_zero, List.set_cons_succ, i64_w, i32_w]
                  rfl
                refine pure_ (i := 6) (N := some 39) (v := ?_) (a' := ?_) #[true, true, true, true, true, true, true, true, false, true, false, false, false, false, false] rfl rfl (any_of HT_.out (by kernel_rfl)) (fun _ _ _ h => h) (Or.inl ⟨by rfl, ?_⟩) ?_ ?_
                rotate_left
                · intro w'
                  go_simp
                  with_reducible rfl
                rotate_left
                · simp only [Act.put, List.setIfInBounds_toArray, List.set_cons_zero, List.set_cons_succ, i64_w, i32_w]
                  rfl
                refine one_ (i := 8) (N := some 41) #[true, true, true, true, true, true, true, true, true, true, false, false, false, false, false] rfl rfl (one_of HT_.out (by kernel_rfl)) (by decide) (fun K hK => ?_)
                refine goes_ Try.func27 (by kernel_rfl) rfl #[.pointer (some ⟨gb177, 0, none⟩), .int .i64 9] (by rfl) rfl rfl (by (try simp only [List.map_toArray, List.map_cons, List.map_nil]); first | done | rfl | (simp only [List.length_drop, List.length_take]; rfl)) ?_
                with_reducible refine (flagstonedata_Source_Next.calls gb177 l0 t187 9 t188 t189 w _ ?side1 ?side2 A16.out).mono ?_
                (case side1 => repeat (first | (with_reducible first | exact HI177.out | apply IsS58.alloc | apply IsS58.drewN | apply IsS58.drew | apply IsS58.set_1 | refine IsS58.far ?_ NB177_185.out _) | exact HI177.out))
                (case side2 => repeat (first | (with_reducible first | exact HB.out | apply below_alloc | apply pw_below_drewN | apply below_drew1 | refine below_set ?_ (IsS58.ge HI177.out) | refine below_set ?_ GE185.out) | exact HB.out))
                rintro e w29 ⟨rfl, hi, hb, hk⟩
                refine ⟨_, rfl, ?_⟩
                have n0_ := Aside0.mk (Kd.R_mono (Kd.R_keep (IsS58.apart (show IsS58 w _ gb177 l0 t187 from by repeat (first | (with_reducible first | exact HI177.out | apply IsS58.alloc | apply IsS58.drewN | apply IsS58.drew | apply IsS58.set_1 | refine IsS58.far ?_ NB177_185.out _) | exact HI177.out)) (by (with_reducible repeat (first | apply Kd.R_alloc | apply Kd.R_drewN | apply Kd.R_drew)); exact HO_6.out) (by decide)) hk (fun _ h => h.2)) (fun _ h => h.1))
                have n1_ := Aside0.mk (KeepBut.blk hk (g' := gb185) (o := .cells #[.string t180, .string (⟨#[97, 112, 112]⟩ : ByteArray), .int .i64 (wrap64 ((x6_1.length : Int) + 1)), .int .i64 (x6_1.length : Int), .int .i64 (wrap64 (1 + t181)), .int .i64 (wrap64 (1 + t183))] 32 (0, 0)) (by (with_reducible repeat (first | refine blk_drewN ?_ _ | refine blk_drew ?_ | refine blk_alloc ?_ _)); exact BK185.out) NB185_177.out (by simp))
                have n2_ := Aside0.mk (hb)
                have n3_ := Aside0.mk (hi)
                clear HO_6
                clear BK185
                clear HB
                clear HI177
                have HO_6 := n0_
                have BK185 := n1_
                have HB := n2_
                have HI177 := n3_
                clear n0_ n1_ n2_ n3_
                (try clear hb)
                (try clear hb2)
                (try clear hk)
                (try clear hi)
                refine hK.out _ _ ⟨(blk_cell BK185.out 0).trans rfl, (blk_cell BK185.out 1).trans rfl, (blk_cell BK185.out 2).trans rfl, (blk_cell BK185.out 3).trans rfl, (blk_cell BK185.out 4).trans rfl, (blk_cell BK185.out 5).trans rfl⟩ (fun hHeld => ?_)
                clear hK K
                refine norm_ (a' := ?_) ?_ ?_
                rotate_left
                · show Act.put _ (some 41) _ = _
                  simp only [Act.put, List.setIfInBounds_toArray, List.set_cons_zero, List.set_cons_succ, i64_w, i32_w]
                  rfl
                refine one_ (i := 10) (N := some 43) #[true, true, true, true, true, true, true, true, true, true, true, false, false, false, false] rfl rfl (one_of HT_.out (by kernel_rfl)) (by decide) (fun K hK => ?_)
                refine goes_ Try.func27 (by kernel_rfl) rfl #[.pointer (some ⟨gb177, 0, none⟩), .int .i64 5] (by rfl) rfl rfl (by (try simp only [List.map_toArray, List.map_cons, List.map_nil]); first | done | rfl | (simp only [List.length_drop, List.length_take]; rfl)) ?_
                with_reducible refine (flagstonedata_Source_Next.calls gb177 l0 t189 5 t190 t191 w _ ?side1 ?side2 A17.out).mono ?_
                (case side1 => repeat (first | (with_reducible first | exact HI177.out | apply IsS58.alloc | apply IsS58.drewN | apply IsS58.drew | apply IsS58.set_1 | refine IsS58.far ?_ NB177_185.out _) | exact HI177.out))
                (case side2 => repeat (first | (with_reducible first | exact HB.out | apply below_alloc | apply pw_below_drewN | apply below_drew1 | refine below_set ?_ (IsS58.ge HI177.out) | refine below_set ?_ GE185.out) | exact HB.out))
                rintro e w30 ⟨rfl, hi, hb, hk⟩
                refine ⟨_, rfl, ?_⟩
                have n0_ := Aside0.mk (Kd.R_mono (Kd.R_keep (IsS58.apart (show IsS58 w _ gb177 l0 t189 from by repeat (first | (with_reducible first | exact HI177.out | apply IsS58.alloc | apply IsS58.drewN | apply IsS58.drew | apply IsS58.set_1 | refine IsS58.far ?_ NB177_185.out _) | exact HI177.out)) (by (with_reducible repeat (first | apply Kd.R_alloc | apply Kd.R_drewN | apply Kd.R_drew)); exact HO_6.out) (by decide)) hk (fun _ h => h.2)) (fun _ h => h.1))
                have n1_ := Aside0.mk (KeepBut.blk hk (g' := gb185) (o := .cells #[.string t180, .string (⟨#[97, 112, 112]⟩ : ByteArray), .int .i64 (wrap64 ((x6_1.length : Int) + 1)), .int .i64 (x6_1.length : Int), .int .i64 (wrap64 (1 + t181)), .int .i64 (wrap64 (1 + t183))] 32 (0, 0)) (by (with_reducible repeat (first | refine blk_drewN ?_ _ | refine blk_drew ?_ | refine blk_alloc ?_ _)); exact BK185.out) NB185_177.out (by simp))
                have n2_ := Aside0.mk (hb)
                have n3_ := Aside0.mk (hi)
                clear HO_6
                clear BK185
                clear HB
                clear HI177
                have HO_6 := n0_
                have BK185 := n1_
                have HB := n2_
                have HI177 := n3_
                clear n0_ n1_ n2_ n3_
                (try clear hb)
                (try clear hb2)
                (try clear hk)
                (try clear hi)
                refine hK.out _ _ ⟨(blk_cell BK185.out 0).trans rfl, (blk_cell BK185.out 1).trans rfl, (blk_cell BK185.out 2).trans rfl, (blk_cell BK185.out 3).trans rfl, (blk_cell BK185.out 4).trans rfl, (blk_cell BK185.out 5).trans rfl⟩ (fun hHeld => ?_)
                clear hK K
                refine norm_ (a' := ?_) ?_ ?_
                rotate_left
                · show Act.put _ (some 43) _ = _
                  simp only [Act.put, List.setIfInBounds_toArray, List.set_cons_zero, List.set_cons_succ, i64_w, i32_w]
                  rfl
                refine pure_ (i := 11) (N := some 44) (v := ?_) (a' := ?_) #[true, true, true, true, true, true, true, true, true, true, true, true, false, false, false] rfl rfl (any_of HT_.out (by kernel_rfl)) (fun _ _ _ h => h) (Or.inl ⟨by rfl, ?_⟩) ?_ ?_
                rotate_left
                · intro w'
                  go_simp
                  with_reducible rfl
                rotate_left
                · simp only [Act.put, List.setIfInBounds_toArray, List.set_cons_zero, List.set_cons_succ, i64_w, i32_w]
                  rfl
                refine one_ (i := 12) (N := some 45) #[true, true, true, true, true, true, true, true, true, true, true, true, true, false, false] rfl rfl (one_of HT_.out (by kernel_rfl)) (by decide) (fun K hK => ?_)
                refine value_ (w1 := ?_) (v := ?_) (by rfl) rfl ?_ ?_
                rotate_left 2
                · go_simp
                  constructor
                  · rfl
                  · rfl
                refine hK.out _ _ ⟨(blk_cell (blk_alloc BK185.out _) 0).trans rfl, (blk_cell (blk_alloc BK185.out _) 1).trans rfl, (blk_cell (blk_alloc BK185.out _) 2).trans rfl, (blk_cell (blk_alloc BK185.out _) 3).trans rfl, (blk_cell (blk_alloc BK185.out _) 4).trans rfl, (blk_cell (blk_alloc BK185.out _) 5).trans rfl⟩ (fun hHeld => ?_)
                clear hK K
                refine norm_ (a' := ?_) ?_ ?_
                rotate_left
                · show Act.put _ (some 45) _ = _
                  simp only [Act.put, List.setIfInBounds_toArray, List.set_cons_zero, List.set_cons_succ, i64_w, i32_w]
                  rfl
                refine one_ (i := 13) (N := some 46) #[true, true, true, true, true, true, true, true, true, true, true, true, true, true, false] rfl rfl (one_of HT_.out (by kernel_rfl)) (by decide) (fun K hK => ?_)
                refine Kd.R_append_step k34 (w0 := w) w.heap.size (by rfl) (.tmp 33) (.tmp 45) 25 34 (.agg #[(.string ⟨#[]⟩), (.string ⟨#[]⟩), (.int .i64 0), (.int .i64 0), (.int .i64 0), (.int .i64 0), (.int .i64 0), (.int .i64 0), (.int .i64 0), (.bool false)]) 96 rfl Try.underlying25 info34 rfl (by decide) (by omega) (.slice Ao19 x6_1.length co19) x6_1 (⟨(⟨t180, (⟨#[97, 112, 112]⟩ : ByteArray), wrap64 ((x6_1.length : Int) + 1), (x6_1.length : Int), wrap64 (1 + t181), wrap64 (1 + t183)⟩ : S32), Int.tmod t186 (wrap64 (a1 + 1)), t188, t190, false⟩ : S34) [.string t180, .string (⟨#[97, 112, 112]⟩ : ByteArray), .int .i64 (wrap64 ((x6_1.length : Int) + 1)), .int .i64 (x6_1.length : Int), .int .i64 (wrap64 (1 + t181)), .int .i64 (wrap64 (1 + t183)), .int .i64 (Int.tmod t186 (wrap64 (a1 + 1))), .int .i64 t188, .int .i64 t190, .bool false] (fun _ => True) (fun _ => False) rfl rfl ?aP (fun _ hk => hk.elim) ?aF ?aO ?aB ?aS ?aL ?_
                (case aP => exact k34_mkM _ _ _ (⟨(⟨t180, (⟨#[97, 112, 112]⟩ : ByteArray), wrap64 ((x6_1.length : Int) + 1), (x6_1.length : Int), wrap64 (1 + t181), wrap64 (1 + t183)⟩ : S32), Int.tmod t186 (wrap64 (a1 + 1)), t188, t190, false⟩ : S34))
                (case aB => exact (by repeat (first | (with_reducible first | exact HB.out | apply below_alloc | apply pw_below_drewN | apply below_drew1 | refine below_set ?_ (IsS58.ge HI177.out) | refine below_set ?_ GE185.out) | exact HB.out)))
                (case aF => exact (fun _ _ => trivial))
                (case aO => exact (by (with_reducible repeat (first | apply Kd.R_alloc | apply Kd.R_drewN | apply Kd.R_drew)); exact HO_6.out))
                (case aS => exact (below_size (by repeat (first | (with_reducible first | exact HB.out | apply below_alloc | apply pw_below_drewN | apply below_drew1 | refine below_set ?_ (IsS58.ge HI177.out) | refine below_set ?_ GE185.out) | exact HB.out))))
                (case aL => have := LMc18.out; omega)
                intro v193 w31 ho hb hg hat
                rw [← Ny192.out] at ho
                have n0_ := Aside0.mk (IsS58.grown (by repeat (first | (with_reducible first | exact HI177.out | apply IsS58.alloc | apply IsS58.drewN | apply IsS58.drew | apply IsS58.set_1 | refine IsS58.far ?_ NB177_185.out _) | exact HI177.out)) hg (IsS58.own_ne HI177.out HO_6.out (by decide)))
                have n1_ := Aside0.mk (blk_grown (g := gb185) (o := .cells #[.string t180, .string (⟨#[97, 112, 112]⟩ : ByteArray), .int .i64 (wrap64 ((x6_1.length : Int) + 1)), .int .i64 (x6_1.length : Int), .int .i64 (wrap64 (1 + t181)), .int .i64 (wrap64 (1 + t183))] 32 (0, 0)) (by (with_reducible repeat (first | refine blk_drewN ?_ _ | refine blk_drew ?_ | refine blk_alloc ?_ _)); exact BK185.out) hg (Kd.R_ne HO_6.out BK185.out (by decide)))
                have n2_ := Aside0.mk (hb)
                have n3_ := Aside0.mk (ho)
                clear HI177
                clear BK185
                clear HB
                clear HO_6
                have HI177 := n0_
                have BK185 := n1_
                have HB := n2_
                have HO194 := n3_
                clear n0_ n1_ n2_ n3_
                clear ho hb hg hat
                refine hK.out _ _ ⟨(blk_cell BK185.out 0).trans rfl, (blk_cell BK185.out 1).trans rfl, (blk_cell BK185.out 2).trans rfl, (blk_cell BK185.out 3).trans rfl, (blk_cell BK185.out 4).trans rfl, (blk_cell BK185.out 5).trans rfl⟩ (fun hHeld => ?_)
                clear hK K
                refine norm_ (a' := ?_) ?_ ?_
                rotate_left
                · show Act.put _ (some 46) _ = _
                  simp only [Act.put, List.setIfInBounds_toArray, List.set_cons_zero, List.set_cons_succ, i64_w, i32_w]
                  rfl
                refine pure_ (i := 14) (N := some 6) (v := ?_) (a' := ?_) #[true, true, true, true, true, true, true, true, true, true, true, true, true, true, true] rfl rfl (any_of HT_.out (by kernel_rfl)) (fun _ _ _ h => h) (Or.inl ⟨by rfl, ?_⟩) ?_ ?_
                rotate_left
                · intro w'
                  go_simp
                  with_reducible rfl
                rotate_left
                · simp only [Act.put, List.setIfInBounds_toArray, List.set_cons_zero, List.set_cons_succ, i64_w, i32_w]
                  rfl
                refine done_ (done_of HT_.out (by kernel_rfl)) ?_
                try go_wp2
                go_roundg kj3
                case measure => have := HK1.out; have := HJ3.out; omega
                case rel => exact ⟨(y192), (t191), H', ⟨by have := HK1.out; have := HJ3.out; omega⟩, ⟨by (with_reducible repeat (first | apply Kd.R_alloc | apply Kd.R_drewN | apply Kd.R_drew)); exact HO194.out⟩, ⟨by repeat (first | (with_reducible first | exact HI177.out | apply IsS58.alloc | apply IsS58.drewN | apply IsS58.drew | apply IsS58.set_1 | refine IsS58.far ?_ NB177_185.out _) | exact HI177.out)⟩, ⟨by repeat (first | (with_reducible first | exact HB.out | apply below_alloc | apply pw_below_drewN | apply below_drew1 | refine below_set ?_ (IsS58.ge HI177.out) | refine below_set ?_ GE185.out) | exact HB.out)⟩⟩
              · rw [if_neg c18] at H
                exact absurd H (by simp)
          · replace c10 := Bool.eq_false_iff.mpr c10
            subst c10
            have H1 : (some x6_1) = some r := by rw [if_neg (show ¬ (false = true) by decide)] at H; exact H
            clear H
            have H := H1
            clear H1
            obtain rfl := Option.some.inj H
            go_wp2
            go_ret
            exact ⟨_, by first | rfl | (simp [errW_none, errW_some] <;> rfl) | (simp [*, errW_none, errW_some] <;> rfl), by (with_reducible repeat (first | apply Kd.R_alloc | apply Kd.R_drewN | apply Kd.R_drew)); exact HO_6.out, by repeat (first | (with_reducible first | exact HB.out | apply below_alloc | apply pw_below_drewN | apply below_drew1 | refine below_set ?_ (IsS58.ge HI177.out)) | exact HB.out)⟩

/-! ### flagstonedata_Weights: function 21 -/
def flagstonedata_Weights.f (a0 : Int) (a1 : Int) (a2 : Int) (a3 : Int) : Option ((List (S42))) := some (([(⟨1, wrap64 (1 + (Int.tmod (wrap64 (a0)) 20)), wrap64 (1 + (Int.tmod (wrap64 (a1)) 20))⟩ : S42), (⟨2, wrap64 (1 + (Int.tmod (wrap64 (a2)) 20)), wrap64 (1 + (Int.tmod (wrap64 (a3)) 20))⟩ : S42)] : List (S42)))
set_option maxHeartbeats 8000000 in
set_option maxRecDepth 100000 in
theorem flagstonedata_Weights.calls (a0 : Int) (a1 : Int) (a2 : Int) (a3 : Int) (r : List (S42)) (w : World) (h : flagstonedata_Weights.f a0 a1 a2 a3 = some r) :
    Calls Try.prog 21 #[.int .u8 a0, .int .u8 a1, .int .u8 a2, .int .u8 a3] w fun e w' => ∃ v0_ : Value, e = .returned (v0_) ∧ Kd.R k42 42 w' w.heap.size (fun _ => True) v0_ r ∧ Below w.heap.size w w' := by
  have hu42 := Try.underlying42
  have HB := Aside0.mk (Below.refl w.heap.size w)
  have H : (some (([(⟨1, wrap64 (1 + (Int.tmod (wrap64 (a0)) 20)), wrap64 (1 + (Int.tmod (wrap64 (a1)) 20))⟩ : S42), (⟨2, wrap64 (1 + (Int.tmod (wrap64 (a2)) 20)), wrap64 (1 + (Int.tmod (wrap64 (a3)) 20))⟩ : S42)] : List (S42)))) = some r := h
  clear h
  obtain ⟨y195, hy195⟩ : ∃ y_ : List (S42), y_ = (([(⟨1, wrap64 (1 + (Int.tmod (wrap64 (a0)) 20)), wrap64 (1 + (Int.tmod (wrap64 (a1)) 20))⟩ : S42), (⟨2, wrap64 (1 + (Int.tmod (wrap64 (a2)) 20)), wrap64 (1 + (Int.tmod (wrap64 (a3)) 20))⟩ : S42)] : List (S42))) := ⟨_, rfl⟩
  replace H : (some y195) = some r := by first | (rw [hy195]; with_reducible exact H) | (have H2_ := (Option.bind_some _ _).symm.trans H; rw [hy195]; with_reducible exact H2_) | (have H2_ := (Option.bind_some _ _).symm.trans H; with_reducible exact H2_) | with_reducible exact H | (rw [hy195]; exact H) | exact H
  have Ny195 := Aside0.mk hy195
  clear hy195
  obtain rfl := Option.some.inj H
  go_enter Try.func21, Try.ntmps21
  go_wp2_with (first | ((with_reducible refine gate_dst (N := 27) rfl ?_); refine Kd.R_lit k42 _ 42 ?hg (N := 27) ?hd (xs := ([(⟨1, wrap64 (1 + (Int.tmod (wrap64 (a0)) 20)), wrap64 (1 + (Int.tmod (wrap64 (a1)) 20))⟩ : S42), (⟨2, wrap64 (1 + (Int.tmod (wrap64 (a2)) 20)), wrap64 (1 + (Int.tmod (wrap64 (a3)) 20))⟩ : S42)] : List (S42))) (inner := [.int .i64 1, .int .i64 (wrap64 (1 + (Int.tmod (wrap64 (a0)) 20))), .int .i64 (wrap64 (1 + (Int.tmod (wrap64 (a1)) 20))), .int .i64 2, .int .i64 (wrap64 (1 + (Int.tmod (wrap64 (a2)) 20))), .int .i64 (wrap64 (1 + (Int.tmod (wrap64 (a3)) 20)))]) (ok := fun _ => True) (okp := fun _ => True) ?hr ?hp (fun _ hk => hk) trivial (Below.refl _ _) (Nat.le_refl _) (by simp) ?_; (case hd => rfl); (case hg => rfl); (case hr => first | (go_simp; done) | (go_simp; rfl)); (case hp => exact (Reps.c3 (show Kd.M k42 _ _ _ (⟨1, wrap64 (1 + (Int.tmod (wrap64 (a0)) 20)), wrap64 (1 + (Int.tmod (wrap64 (a1)) 20))⟩ : S42) [.int .i64 1, .int .i64 (wrap64 (1 + (Int.tmod (wrap64 (a0)) 20))), .int .i64 (wrap64 (1 + (Int.tmod (wrap64 (a1)) 20)))] from (k42_mkM _ _ _ (⟨1, wrap64 (1 + (Int.tmod (wrap64 (a0)) 20)), wrap64 (1 + (Int.tmod (wrap64 (a1)) 20))⟩ : S42) )) (Reps.c3 (show Kd.M k42 _ _ _ (⟨2, wrap64 (1 + (Int.tmod (wrap64 (a2)) 20)), wrap64 (1 + (Int.tmod (wrap64 (a3)) 20))⟩ : S42) [.int .i64 2, .int .i64 (wrap64 (1 + (Int.tmod (wrap64 (a2)) 20))), .int .i64 (wrap64 (1 + (Int.tmod (wrap64 (a3)) 20)))] from (k42_mkM _ _ _ (⟨2, wrap64 (1 + (Int.tmod (wrap64 (a2)) 20)), wrap64 (1 + (Int.tmod (wrap64 (a3)) 20))⟩ : S42) )) (Reps.none _ _)))); intro v196 w5 ho6 hb hg_ hnew_; clear hg_ hnew_; (first | rw [← Ny195.out] at ho6 | (simp only [Int.reduceToNat] at ho6; rw [← Ny195.out] at ho6)); have n0_ := Aside0.mk (Kd.R_lower ho6 (below_size (by repeat (first | (with_reducible first | exact HB.out | apply below_alloc | apply pw_below_drewN | apply below_drew1) | exact HB.out)))); have n1_ := Aside0.mk (below_step (by repeat (first | (with_reducible first | exact HB.out | apply below_alloc | apply pw_below_drewN | apply below_drew1) | exact HB.out)) hb); clear HB; have HO197 := n0_; have HB := n1_; clear n0_ n1_; clear hb ho6))
  go_ret
  exact ⟨_, by first | rfl | (simp [errW_none, errW_some] <;> rfl) | (simp [*, errW_none, errW_some] <;> rfl), by (with_reducible repeat (first | apply Kd.R_alloc | apply Kd.R_drewN | apply Kd.R_drew)); exact HO197.out, by repeat (first | (with_reducible first | exact HB.out | apply below_alloc | apply pw_below_drewN | apply below_drew1) | exact HB.out)⟩

/-! ### flagstoneref39_Same: function 22 -/
def flagstoneref39_Same.l0 : Nat → List (S37) → List (S37) → Int → Option (Bool)
  | 0, _, _, _ => none
  | k + 1, x0, x1, x5 => if x5 < (x0.length : Int) then (if 0 ≤ x5 then (if x5 < (x1.length : Int) then (if (!(((rd_T37 x0 x5).f0) == ((rd_T37 x1 x5).f0)) || (!(((rd_T37 x0 x5).f1) == ((rd_T37 x1 x5).f1)) || (!(((rd_T37 x0 x5).f2) == ((rd_T37 x1 x5).f2))))) = true then (some false) else (flagstoneref39_Same.l0 k x0 x1 (wrap64 (x5 + 1)))) else (none)) else (none)) else (some true)
def flagstoneref39_Same.f (k : Nat) (l0 : List (S37)) (l1 : List (S37)) : Option (Bool) := if (l0.length : Int) = (l1.length : Int) then (flagstoneref39_Same.l0 k l0 l1 0) else (some false)
theorem flagstoneref39_Same.mono_l : ∀ k, (∀ y0 y1 y2, LeO (flagstoneref39_Same.l0 k y0 y1 y2) (flagstoneref39_Same.l0 (k + 1) y0 y1 y2))
  | 0 => fun _ _ _ r h => by simp [flagstoneref39_Same.l0] at h
  | k + 1 => by
    have ih0 := flagstoneref39_Same.mono_l k
    · intro y0 y1 y2
      unfold flagstoneref39_Same.l0
      repeat' first
      | (with_reducible exact ih0 _ _ _)
      | (with_reducible exact LeO.refl _)
      | (with_reducible exact LeO.none _)
      | (with_reducible refine LeO.ite ?_ ?_)
      | (with_reducible refine LeO.bind ?_ (fun _ => ?_))
      | exact ih0 _ _ _
      | exact LeO.none _
      | refine LeO.ite ?_ ?_
      | refine LeO.bind ?_ (fun _ => ?_)
theorem flagstoneref39_Same.mono : ∀ a0 a1 k, LeO (flagstoneref39_Same.f k a0 a1) (flagstoneref39_Same.f (k + 1) a0 a1) := by
  intro a0 a1 k
  have ih0 := flagstoneref39_Same.mono_l k
  unfold flagstoneref39_Same.f
  repeat' first
      | (with_reducible exact ih0 _ _ _)
      | (with_reducible exact LeO.refl _)
      | (with_reducible exact LeO.none _)
      | (with_reducible refine LeO.ite ?_ ?_)
      | (with_reducible refine LeO.bind ?_ (fun _ => ?_))
      | exact ih0 _ _ _
      | exact LeO.none _
      | refine LeO.ite ?_ ?_
      | refine LeO.bind ?_ (fun _ => ?_)
set_option maxHeartbeats 8000000 in
set_option maxRecDepth 100000 in
theorem flagstoneref39_Same.calls (k : Nat) (A0 : Option Addr) (c0 : Nat) (l0 : List (S37)) (A1 : Option Addr) (c1 : Nat) (l1 : List (S37)) (r : Bool) (w : World) (hr0 : Kd.C k37 w A0 l0.length l0) (hc0 : l0.length ≤ c0) (hr1 : Kd.C k37 w A1 l1.length l1) (hc1 : l1.length ≤ c1) (h : flagstoneref39_Same.f k l0 l1 = some r) :
    Calls Try.prog 22 #[.slice A0 l0.length c0, .slice A1 l1.length c1] w fun e w' => e = .returned (.bool r) ∧ Drawn0 w w' := by
  have hu37 := Try.underlying37
  have HR0 := Aside0.mk hr0
  have HC0 := Aside0.mk hc0
  clear hr0 hc0
  have HR1 := Aside0.mk hr1
  have HC1 := Aside0.mk hc1
  clear hr1 hc1
  have H : (if (l0.length : Int) = (l1.length : Int) then (flagstoneref39_Same.l0 k l0 l1 0) else (some false)) = some r := h
  clear h
  by_cases c3 : (l0.length : Int) = (l1.length : Int)
  · rw [if_pos c3] at H
    have c3b0 : ((l0.length : Int) == (l1.length : Int)) = true := beq_iff_eq.mpr c3
    have c3b1 : ((l0.length : Int) != (l1.length : Int)) = false := bne_eq_false_iff_eq.mpr c3
    have c3b2 : (l0.length == l1.length) = true := by first | simpa using c3 | (simp at c3 ⊢; omega)
    clear c3
    have H' := Aside0.mk H
    clear H
    go_enter Try.func22, Try.ntmps22
    go_wp2
    repeat (go_quiet (fail); try go_wp2)
    go_loopg [5] k (fun kq v5 w' => ∃ (x5_1 : Int), v5 = .int .i64 x5_1 ∧ Aside0 (flagstoneref39_Same.l0 kq l0 l1 x5_1 = some r) ∧ Aside0 (kq ≤ k) ∧ Drawn0 w w')
    case atStart => exact ⟨(0), (by first | rfl | (simp; done) | (simp [*]; done) | exact congrArg (Value.int _) (by unfold wrap64; omega)), H', ⟨Nat.le_refl _⟩, by repeat (first | exact Drawn0.refl _ | apply Drawn0.step)⟩
    case round =>
      clear H'
      try clear c1
      try clear c2
      try clear p2
      try clear c3
      try clear c3b0
      try clear c3b1
      try clear c3b2
      obtain ⟨x5_1, rfl, HA, HK1, ⟨m1, rfl⟩⟩ := hrel
      cases gk with
      | zero => exact absurd HA.out (by simp [flagstoneref39_Same.l0])
      | succ k1 =>
        have H := HA.out
        clear HA
        simp only [flagstoneref39_Same.l0] at H
        by_cases c4 : x5_1 < (l0.length : Int)
        · rw [if_pos c4] at H
          have c4b0 : decide (x5_1 < (l0.length : Int)) = true := decide_eq_true c4
          clear c4
          by_cases c5 : 0 ≤ x5_1
          · rw [if_pos c5] at H
            have c5b0 : decide (0 ≤ x5_1) = true := decide_eq_true c5
            clear c5
            by_cases c6 : x5_1 < (l1.length : Int)
            · rw [if_pos c6] at H
              have c6b0 : decide (x5_1 < (l1.length : Int)) = true := decide_eq_true c6
              clear c6
              by_cases c7 : (!(((rd_T37 l0 x5_1).f0) == ((rd_T37 l1 x5_1).f0)) || (!(((rd_T37 l0 x5_1).f1) == ((rd_T37 l1 x5_1).f1)) || (!(((rd_T37 l0 x5_1).f2) == ((rd_T37 l1 x5_1).f2))))) = true
              · rw [if_pos c7] at H
                have c7b0 : (!(((rd_T37 l0 x5_1).f0) == ((rd_T37 l1 x5_1).f0)) || (!(((rd_T37 l0 x5_1).f1) == ((rd_T37 l1 x5_1).f1)) || (!(((rd_T37 l0 x5_1).f2) == ((rd_T37 l1 x5_1).f2))))) = true := c7
                clear c7
                obtain rfl := Option.some.inj H
                have p198 : 0 ≤ (x5_1 : Int) := of_decide_eq_true (by first | (with_reducible assumption) | assumption)
                have q198 : x5_1 < (l0.length : Int) := of_decide_eq_true (by first | (with_reducible assumption) | assumption)
                obtain ⟨ad198, e198, hx198_0, hx198_1, hx198_2⟩ := at_T37 HR0.out x5_1 p198 q198
                cases e198
                replace p198 := eq_true p198
                replace q198 := eq_true q198
                have p199 : 0 ≤ (x5_1 : Int) := of_decide_eq_true (by first | (with_reducible assumption) | assumption)
                have q199 : x5_1 < (l1.length : Int) := of_decide_eq_true (by first | (with_reducible assumption) | assumption)
                obtain ⟨ad199, e199, hx199_0, hx199_1, hx199_2⟩ := at_T37 HR1.out x5_1 p199 q199
                cases e199
                replace p199 := eq_true p199
                replace q199 := eq_true q199
                go_wp2
                repeat (go_quiet (fail); try go_wp2)
                go_ret
                exact ⟨by first | rfl | (simp; done) | (simp [*]; done), by repeat (first | exact Drawn0.refl _ | apply Drawn0.step)⟩
              · rw [if_neg c7] at H
                have c7b0 : (!(((rd_T37 l0 x5_1).f0) == ((rd_T37 l1 x5_1).f0)) || (!(((rd_T37 l0 x5_1).f1) == ((rd_T37 l1 x5_1).f1)) || (!(((rd_T37 l0 x5_1).f2) == ((rd_T37 l1 x5_1).f2))))) = false := by simpa using c7
                clear c7
                have H' := Aside0.mk H
                clear H
                have p198 : 0 ≤ (x5_1 : Int) := of_decide_eq_true (by first | (with_reducible assumption) | assumption)
                have q198 : x5_1 < (l0.length : Int) := of_decide_eq_true (by first | (with_reducible assumption) | assumption)
                obtain ⟨ad198, e198, hx198_0, hx198_1, hx198_2⟩ := at_T37 HR0.out x5_1 p198 q198
                cases e198
                replace p198 := eq_true p198
                replace q198 := eq_true q198
                have p199 : 0 ≤ (x5_1 : Int) := of_decide_eq_true (by first | (with_reducible assumption) | assumption)
                have q199 : x5_1 < (l1.length : Int) := of_decide_eq_true (by first | (with_reducible assumption) | assumption)
                obtain ⟨ad199, e199, hx199_0, hx199_1, hx199_2⟩ := at_T37 HR1.out x5_1 p199 q199
                cases e199
                replace p199 := eq_true p199
                replace q199 := eq_true q199
                go_wp2
                repeat (go_quiet (fail); try go_wp2)
                go_roundg k1
                case measure => have := HK1.out; omega
                case rel => exact ⟨(wrap64 (x5_1 + 1)), (by first | rfl | (simp; done) | (simp [*]; done) | exact congrArg (Value.int _) (by unfold wrap64; omega)), H', ⟨by have := HK1.out; omega⟩, by repeat (first | exact Drawn0.refl _ | apply Drawn0.step)⟩
            · rw [if_neg c6] at H
              exact absurd H (by simp)
          · rw [if_neg c5] at H
            exact absurd H (by simp)
        · rw [if_neg c4] at H
          have c4b0 : decide (x5_1 < (l0.length : Int)) = false := decide_eq_false c4
          clear c4
          obtain rfl := Option.some.inj H
          go_wp2
          repeat (go_quiet (fail); try go_wp2)
          go_ret
          exact ⟨by first | rfl | (simp; done) | (simp [*]; done), by repeat (first | exact Drawn0.refl _ | apply Drawn0.step)⟩
  · rw [if_neg c3] at H
    have c3b0 : ((l0.length : Int) == (l1.length : Int)) = false := beq_eq_false_iff_ne.mpr c3
    have c3b1 : ((l0.length : Int) != (l1.length : Int)) = true := bne_iff_ne.mpr c3
    have c3b2 : (l0.length == l1.length) = false := by first | simpa using c3 | (simp at c3 ⊢; omega)
    obtain rfl := Option.some.inj H
    go_enter Try.func22, Try.ntmps22
    go_wp2
    repeat (go_quiet (fail); try go_wp2)
    go_ret
    exact ⟨by first | rfl | (simp; done) | (simp [*]; done), by repeat (first | exact Drawn0.refl _ | apply Drawn0.step)⟩

end Go.Proofs.Ytdmhdbebjjhopaa.PA
