/- The intervals after each number of scores: by the program and by the document's text; Settles. -/
import Derived.Test.YtdclcdaoidbgbaaH5
import Derived.Test.YtdclcdaoidbgbaaPA12
import Derived.Test.YtdclcdaoidbgbaaPA13
import Derived.Test.YtdclcdaoidbgbaaQ3
namespace Go.Proofs.Ytdclcdaoidbgbaa.PA
open Go Go.RowKit Go.Proofs.YtdclcdaoidbgbaaW.PrintWords Go.Proofs.YtdclcdaoidbgbaaW.PrintLast Go.Proofs.YtdclcdaoidbgbaaW.PrintMore Go.Proofs.Ytdclcdaoidbgbaa.M
set_option linter.unusedVariables false
set_option linter.unusedSimpArgs false

/-- The ends after i + 1 scores, and after more. -/
def lowsS (thr : Int) (l : List S50) : Nat → Nat → List Int
  | 0, _ => []
  | m + 1, i => lowS thr l ((i : Int) + 1) :: lowsS thr l m (i + 1)
def highsS (thr : Int) (l : List S50) : Nat → Nat → List Int
  | 0, _ => []
  | m + 1, i => highS thr l ((i : Int) + 1) :: highsS thr l m (i + 1)
theorem lowsS_length (thr : Int) (l : List S50) : ∀ m i : Nat, (lowsS thr l m i).length = m
  | 0, _ => rfl
  | m + 1, i => by simp only [lowsS, List.length_cons, lowsS_length thr l m]
theorem highsS_length (thr : Int) (l : List S50) : ∀ m i : Nat, (highsS thr l m i).length = m
  | 0, _ => rfl
  | m + 1, i => by simp only [highsS, List.length_cons, highsS_length thr l m]
theorem lowsS_at (thr : Int) (l : List S50) : ∀ m i j : Nat, j < m → rd (lowsS thr l m i) (j : Int) = lowS thr l (((i + j : Nat) : Int) + 1)
  | 0, _, _, h => by omega
  | m + 1, i, 0, _ => rfl
  | m + 1, i, j + 1, h => by
    simp only [lowsS]
    rw [rd_cons, lowsS_at thr l m (i + 1) j (by omega), show i + 1 + j = i + (j + 1) by omega]
theorem highsS_at (thr : Int) (l : List S50) : ∀ m i j : Nat, j < m → rd (highsS thr l m i) (j : Int) = highS thr l (((i + j : Nat) : Int) + 1)
  | 0, _, _, h => by omega
  | m + 1, i, 0, _ => rfl
  | m + 1, i, j + 1, h => by
    simp only [highsS]
    rw [rd_cons, highsS_at thr l m (i + 1) j (by omega), show i + 1 + j = i + (j + 1) by omega]
theorem ofGo_is {l : List S50} {thr : Int} (hl : l.length < 1000000) : ∀ (m i : Nat) (xs ys : List Int), i + m = l.length → Ev (fun k => ofGo k l thr m i xs ys) (xs ++ lowsS thr l m i, ys ++ highsS thr l m i)
  | 0, i, xs, ys, _ => by
    simp only [lowsS, highsS, List.append_nil, ofGo]
    exact Ev.now _
  | m + 1, i, xs, ys, h => by
    have n := ofGo_is (thr := thr) hl m (i + 1) (xs ++ [lowS thr l ((i : Int) + 1)]) (ys ++ [highS thr l ((i : Int) + 1)]) (by omega)
    rw [List.append_assoc, List.append_assoc] at n
    simp only [ofGo]
    exact Ev.bind (end_is_up thr _ (by omega) (by omega)) (Ev.bind (end_is_down thr _ (by omega) (by omega)) n)
theorem Of41_is {l : List S50} (level : Int) (hl : l.length < 1000000) : Ev (fun k => sequence_Of.f k l level) (lowsS (thresholdS level 2) l l.length 0, highsS (thresholdS level 2) l l.length 0) := by
  unfold sequence_Of.f
  refine Ev.pos hl (Ev.bind (wealth_Threshold_is _ _) ?_)
  have := ofGo_is (thr := thresholdS level 2) hl l.length 0 [] [] (by omega)
  simpa using this

/-! Fewer scores: the same ends. -/
theorem path_take (e : Int) (up : Bool) : ∀ (l : List S50) (k : Nat) (a b c : Int), pathS e up a b c (l.take k) = (pathS e up a b c l).take k
  | [], k, _, _, _ => by simp [pathS]
  | s :: l, 0, _, _, _ => by simp [pathS]
  | s :: l, k + 1, a, b, c => by
    rw [List.take_succ_cons]
    simp only [pathS]
    rw [List.take_succ_cons, path_take e up l k]
theorem rd_take {xs : List Int} {k j : Nat} (h : j < k) : rd (xs.take k) (j : Int) = rd xs (j : Int) := by
  unfold rd
  rw [Int.toNat_natCast, List.getD_eq_getElem?_getD, List.getD_eq_getElem?_getD, List.getElem?_take, if_pos h]
theorem ex_take {thr e : Int} {up : Bool} {l : List S50} {k : Nat} (hk : k ≤ l.length) (hl : l.length < 1000000) : exB thr up (l.take k) (k : Int) e = exB thr up l (k : Int) e := by
  have hlen : (l.take k).length = k := by rw [List.length_take]; omega
  apply Bool.eq_iff_iff.mpr
  rw [exB_iff (by omega) (by omega), exB_iff (by omega) (by omega)]
  unfold wealthS
  rw [path_take, hlen]
  constructor
  · rintro ⟨i, h1, h2, h3⟩
    exact ⟨i, by omega, h2, by rw [rd_take h1] at h3; exact h3⟩
  · rintro ⟨i, h1, h2, h3⟩
    exact ⟨i, by omega, h2, by rw [rd_take (by omega)]; exact h3⟩
theorem low_take {thr : Int} {l : List S50} {k : Nat} (hk : k ≤ l.length) (hl : l.length < 1000000) : lowS thr (l.take k) (k : Int) = lowS thr l (k : Int) := by
  unfold lowS
  congr 2
  funext i
  rw [ex_take hk hl]
theorem high_take {thr : Int} {l : List S50} {k : Nat} (hk : k ≤ l.length) (hl : l.length < 1000000) : highS thr (l.take k) (k : Int) = highS thr l (k : Int) := by
  unfold highS
  congr 2
  funext i
  rw [ex_take hk hl]
theorem refOf41_is {l : List S50} (level : Int) (hl : l.length < 1000000) : Ev (fun k => flagstoneref41_Of.f k l level) (lowsS (thresholdS level 2) l l.length 0, highsS (thresholdS level 2) l l.length 0) := by
  unfold flagstoneref41_Of.f
  have go : ∀ m i : Nat, i + m = l.length → ∀ xs ys : List Int, xs.length = i → ys.length = i → Ev (fun k => flagstoneref41_Of.l0 k l level ((i : Int) + 1) xs ys) (xs ++ lowsS (thresholdS level 2) l m i, ys ++ highsS (thresholdS level 2) l m i) := by
    intro m
    induction m with
    | zero =>
      intro i hi xs ys _ _
      simp only [lowsS, highsS, List.append_nil]
      refine Ev.step (f := fun _ => some (xs, ys)) (fun k => ?_) (Ev.now _)
      simp only [flagstoneref41_Of.l0]
      rw [if_neg (by omega)]
    | succ m ih =>
      intro i hi xs ys hx hy
      have hw : wrap64 ((i : Int) + 1 + 1) = ((i + 1 : Nat) : Int) + 1 := by rw [w64_id (by omega) (by omega)]; omega
      have n := ih (i + 1) (by omega) (xs ++ [lowS (thresholdS level 2) l ((i : Int) + 1)]) (ys ++ [highS (thresholdS level 2) l ((i : Int) + 1)]) (by simp; omega) (by simp; omega)
      rw [List.append_assoc, List.append_assoc] at n
      have hlen : (l.take (i + 1)).length = i + 1 := by rw [List.length_take]; omega
      have lo := refLower_is (l := l.take (i + 1)) level (by omega)
      have hi' := refUpper_is (l := l.take (i + 1)) level (by omega)
      rw [hlen, low_take (by omega) hl, show ((i + 1 : Nat) : Int) = (i : Int) + 1 by omega] at lo
      rw [hlen, high_take (by omega) hl, show ((i + 1 : Nat) : Int) = (i : Int) + 1 by omega] at hi'
      refine Ev.step (fun k => by simp only [flagstoneref41_Of.l0]; rfl) ?_
      rw [show ((i : Int) + 1).toNat = i + 1 by omega, hw]
      exact Ev.pos (by omega) (Ev.pos (by omega) (Ev.bind lo (Ev.pos (by omega) (Ev.bind hi' (Ev.pos (by omega) n)))))
  have h := go l.length 0 (by omega) [] [] rfl rfl
  simpa using h

/-! Settles. -/
def outS (e : Int) (L H : List Int) (i : Int) : Bool := (decide (i < L.length) && decide (e < rd L i)) || (decide (i < H.length) && decide (e > rd H i))
theorem set_prog {e n i r : Int} {L H : List Int} (h0 : 0 ≤ i) (hi : i < n) (h : Ev (fun k => sequence_Settles.j1 k e i n i (outS e L H i) L H) r) : Ev (fun k => sequence_Settles.l0 k e n i L H) r := by
  refine Ev.step (fun k => by simp only [sequence_Settles.l0]; rfl) ?_
  unfold outS at h
  refine Ev.pos hi (Ev.both (fun a => ?_) (fun a => ?_))
  · rw [decide_eq_true a] at h
    refine Ev.pos h0 (Ev.both (fun b => ?_) (fun b => ?_))
    · rw [decide_eq_true b] at h; exact h
    · rw [decide_eq_false b] at h
      refine Ev.both (fun c => ?_) (fun c => ?_)
      · rw [decide_eq_true c] at h; simpa using h
      · rw [decide_eq_false c] at h; simpa using h
  · rw [decide_eq_false a] at h
    refine Ev.both (fun c => ?_) (fun c => ?_)
    · rw [decide_eq_true c] at h; exact Ev.pos h0 (by simpa using h)
    · rw [decide_eq_false c] at h; simpa using h
theorem set_ref {e i r : Int} {L H : List Int} (h0 : 0 ≤ i) (hi : i < L.length ∨ i < H.length) (h : Ev (fun k => flagstoneref41_Settles.j2 k e i (outS e L H i) L H) r) : Ev (fun k => flagstoneref41_Settles.l0 k e i L H) r := by
  have j1 : ∀ b, b = true → Ev (fun k => flagstoneref41_Settles.j1 k e i b L H) r := by
    intro b hb
    subst hb
    refine Ev.step (fun k => by simp only [flagstoneref41_Settles.j1]; rfl) ?_
    unfold outS at h
    refine Ev.pos trivial (Ev.both (fun a => ?_) (fun a => ?_))
    · rw [decide_eq_true a] at h
      refine Ev.pos h0 (Ev.both (fun b => ?_) (fun b => ?_))
      · rw [decide_eq_true b] at h; exact h
      · rw [decide_eq_false b] at h
        refine Ev.both (fun c => ?_) (fun c => ?_)
        · rw [decide_eq_true c] at h; simpa using h
        · rw [decide_eq_false c] at h; simpa using h
    · rw [decide_eq_false a] at h
      refine Ev.both (fun c => ?_) (fun c => ?_)
      · rw [decide_eq_true c] at h; exact Ev.pos h0 (by simpa using h)
      · rw [decide_eq_false c] at h; simpa using h
  refine Ev.step (fun k => by simp only [flagstoneref41_Settles.l0]; rfl) ?_
  exact Ev.both (fun a => j1 _ rfl) (fun a => j1 _ (decide_eq_true (by omega)))
theorem settles_same {L H : List Int} (e : Int) (hL : L.length ≤ 1000000) (hH : H.length ≤ 1000000) : ∃ r, Ev (fun k => sequence_Settles.f k L H e) r ∧ Ev (fun k => flagstoneref41_Settles.f k L H e) r := by
  unfold sequence_Settles.f flagstoneref41_Settles.f
  have hmx : mx (L.length : Int) (H.length : Int) = ((max L.length H.length : Nat) : Int) := by unfold mx; split <;> omega
  rw [hmx]
  have go : ∀ m i : Nat, i + m = max L.length H.length → ∃ r, Ev (fun k => sequence_Settles.l0 k e ((max L.length H.length : Nat) : Int) (i : Int) L H) r ∧ Ev (fun k => flagstoneref41_Settles.l0 k e (i : Int) L H) r := by
    intro m
    induction m with
    | zero =>
      intro i hi
      refine ⟨0, Ev.step (f := fun _ => some 0) (fun k => by simp only [sequence_Settles.l0]; rw [if_neg (by omega)]) (Ev.now _), ?_⟩
      refine Ev.step (fun k => by simp only [flagstoneref41_Settles.l0]; rfl) ?_
      refine Ev.neg (by omega) ?_
      rw [decide_eq_false (by omega)]
      exact Ev.step (f := fun _ => some 0) (fun k => by simp only [flagstoneref41_Settles.j1]; rw [if_neg (by decide)]) (Ev.now _)
    | succ m ih =>
      intro i hi
      have hw : wrap64 ((i : Int) + 1) = ((i + 1 : Nat) : Int) := by rw [w64_id (by omega) (by omega)]; omega
      obtain ⟨r, h1, h2⟩ := ih (i + 1) (by omega)
      cases hb : outS e L H (i : Int) with
      | true =>
        refine ⟨wrap64 ((i : Int) + 1), set_prog (by omega) (by omega) ?_, set_ref (by omega) (by omega) ?_⟩
        · rw [hb]; exact Ev.step (f := fun _ => some _) (fun k => by simp only [sequence_Settles.j1]; rw [if_pos trivial]) (Ev.now _)
        · rw [hb]; exact Ev.step (f := fun _ => some _) (fun k => by simp only [flagstoneref41_Settles.j2]; rw [if_pos trivial]) (Ev.now _)
      | false =>
        refine ⟨r, set_prog (by omega) (by omega) ?_, set_ref (by omega) (by omega) ?_⟩
        · rw [hb]
          refine Ev.step (fun k => by simp only [sequence_Settles.j1]; rfl) ?_
          rw [hw]
          exact Ev.neg (by decide) h1
        · rw [hb]
          refine Ev.step (fun k => by simp only [flagstoneref41_Settles.j2]; rfl) ?_
          rw [hw]
          exact Ev.neg (by decide) h2
  exact go _ 0 (Nat.zero_add _)
end Go.Proofs.Ytdclcdaoidbgbaa.PA
