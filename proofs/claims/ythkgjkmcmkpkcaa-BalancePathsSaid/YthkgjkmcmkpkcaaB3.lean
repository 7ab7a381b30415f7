/- The path of the wealth, exposure by exposure: of the program and of the document's text: one plain function. -/
import Derived.Test.YthkgjkmcmkpkcaaK3
import Derived.Test.YthkgjkmcmkpkcaaPA8
import Derived.Test.YthkgjkmcmkpkcaaB1
namespace Go.Proofs.Ythkgjkmcmkpkcaa.PA
open Go Go.RowKit Go.Proofs.YthkgjkmcmkpkcaaW.PrintWords Go.Proofs.YthkgjkmcmkpkcaaW.PrintLast Go.Proofs.YthkgjkmcmkpkcaaW.PrintMore Go.Proofs.Ythkgjkmcmkpkcaa.M
set_option linter.unusedVariables false
set_option linter.unusedSimpArgs false

/-- The shares of an exposure's version. -/
def csOf (w : List S41) (x : S47) : List Int := [(rd_T41 w (idxS x.f5 0 w)).f1, (rd_T41 w (idxS x.f5 0 w)).f2]
def pathS (w : List S41) : List S47 → Int → (Int → List Int) → List Int → List Int
  | [], _, _, out => out
  | x :: xs, wl, cnt, out => if skipS w x = true then pathS w xs wl cnt out else pathS w xs (stepS wl (cnt x.f5) (csOf w x) x.f4).1 (updC cnt x.f5 (stepS wl (cnt x.f5) (csOf w x) x.f4).2) (out ++ [(stepS wl (cnt x.f5) (csOf w x) x.f4).1])
theorem balP_is (w : List S41) : ∀ (xs : List S47) (wl : Int) (cnt : Int → List Int) (out : List Int), (∀ x ∈ xs, (Lit.int .i64 x.f5).wf = true) → (∀ v, (cnt v).length = 2) → out.length + xs.length ≤ 1000000 → Ev (fun k => balP k w xs wl cnt out) (pathS w xs wl cnt out)
  | [], _, _, _, _, _, _ => by simp only [balP, pathS]; exact Ev.now _
  | x :: xs, wl, cnt, out, hw, hc, ho => by
    simp only [List.length_cons] at ho
    unfold pathS
    simp only [balP]
    refine Ev.pos (hw x (by simp)) ?_
    by_cases hs : skipS w x = true
    · rw [if_pos hs]
      exact Ev.pos hs (balP_is w xs wl cnt out (fun y hy => hw y (by simp [hy])) hc (by omega))
    · rw [if_neg hs]
      refine Ev.neg hs ?_
      have h2 := hc x.f5
      refine Ev.bind (balance_Step_is (by omega)) ?_
      refine Ev.pos (by omega) (balP_is w xs _ _ _ (fun y hy => hw y (by simp [hy])) (fun v => ?_) (by simp only [List.length_append, List.length_singleton]; omega))
      unfold updC
      split
      · rw [stepS_length]; exact h2
      · exact hc v
/-- What the counts of the text's reading are: at the first place of a version. -/
def CntRel (w : List S41) (cs : List (List Int)) (cnt : Int → List Int) : Prop := cs.length = w.length ∧ ∀ j : Nat, (h : j < w.length) → idxS (w[j]).f0 0 w = j → rd_L6 cs (j : Int) = cnt (w[j]).f0
theorem rd_41 {w : List S41} {j : Nat} (h : j < w.length) : rd_T41 w (j : Int) = w[j] := by
  unfold rd_T41
  simp [h]
theorem idxS_at (v : Int) (w : List S41) {j : Nat} (h : j < w.length) : idxS v j (w.drop j) = if (w[j]).f0 = v then (j : Int) else idxS v (j + 1) (w.drop (j + 1)) := by
  rw [List.drop_eq_getElem_cons h]
  rfl
theorem idxS_hit (v : Int) : ∀ (l : List S41) (i : Nat), 0 ≤ idxS v i l → ∃ m : Nat, idxS v i l = ((i + m : Nat) : Int) ∧ ∃ h : m < l.length, (l[m]).f0 = v
  | [], i, h => by simp [idxS] at h
  | y :: l, i, h => by
    unfold idxS at h ⊢
    by_cases c : y.f0 = v
    · rw [if_pos c]
      exact ⟨0, rfl, by simp, by simpa using c⟩
    · rw [if_neg c] at h ⊢
      obtain ⟨m, e, hm, hv⟩ := idxS_hit v l (i + 1) h
      exact ⟨m + 1, by rw [e]; omega, by simp; omega, by simpa using hv⟩
theorem refW_is (w : List S41) (v : Int) (hw : w.length ≤ 1000000) : ∀ n j : Nat, w.length - j = n → j ≤ w.length → 0 ≤ idxS v j (w.drop j) → Ev (fun k => flagstoneref39_Weights.l0 k w v (j : Int)) ((rd_T41 w (idxS v j (w.drop j))).f0, (rd_T41 w (idxS v j (w.drop j))).f1, (rd_T41 w (idxS v j (w.drop j))).f2, true) := by
  intro n
  induction n with
  | zero =>
    intro j hn hj h
    rw [List.drop_eq_nil_of_le (by omega)] at h
    simp [idxS] at h
  | succ n ih =>
    intro j hn hj h
    have hlt : j < w.length := by omega
    have e1 : wrap64 ((j : Int) + 1) = ((j + 1 : Nat) : Int) := by rw [w64_id (by omega) (by omega)]; omega
    refine Ev.step (f := fun k => if (j : Int) < (w.length : Int) then (if 0 ≤ (j : Int) then (if (w[j]).f0 = v then (some ((w[j]).f0, (w[j]).f1, (w[j]).f2, true)) else (flagstoneref39_Weights.l0 k w v ((j + 1 : Nat) : Int))) else (none)) else (some (0, 0, 0, false))) (fun k => by simp only [flagstoneref39_Weights.l0, e1, rd_41 hlt]) ?_
    refine Ev.pos (by omega) (Ev.pos (by omega) ?_)
    rw [idxS_at v w hlt] at h ⊢
    by_cases c : (w[j]).f0 = v
    · rw [if_pos c, rd_41 hlt]
      exact Ev.pos c (Ev.now _)
    · rw [if_neg c] at h ⊢
      exact Ev.neg c (ih (j + 1) (by omega) (by omega) h)
theorem ref_l2 (xs : List S47) (w : List S41) (wl : Int) (cs : List (List Int)) (out : List Int) (i : Nat) (hi : i < xs.length) (hw : w.length ≤ 1000000) (R : List Int) : ∀ n j : Nat, w.length - j = n → j ≤ w.length →
    Ev (fun k => flagstoneref42_Path.j3 k xs w wl cs out (i : Int) (if idxS (xs[i]).f5 j (w.drop j) < 0 then (w.length : Int) else idxS (xs[i]).f5 j (w.drop j))) R → Ev (fun k => flagstoneref42_Path.l2 k xs w wl cs out (i : Int) (j : Int)) R := by
  intro n
  induction n with
  | zero =>
    intro j hn hj h
    rw [List.drop_eq_nil_of_le (by omega)] at h
    rw [if_pos (by simp [idxS])] at h
    refine Ev.step (fun k => ?_) h
    simp only [flagstoneref42_Path.l2]
    rw [if_neg (by omega)]
    congr 1
    omega
  | succ n ih =>
    intro j hn hj h
    have hlt : j < w.length := by omega
    have e1 : wrap64 ((j : Int) + 1) = ((j + 1 : Nat) : Int) := by rw [w64_id (by omega) (by omega)]; omega
    refine Ev.step (f := fun k => if (j : Int) < (w.length : Int) then (if 0 ≤ (j : Int) then (if 0 ≤ (i : Int) then (if (i : Int) < (xs.length : Int) then (if (w[j]).f0 = (xs[i]).f5 then (flagstoneref42_Path.j3 k xs w wl cs out (i : Int) (j : Int)) else (flagstoneref42_Path.l2 k xs w wl cs out (i : Int) ((j + 1 : Nat) : Int))) else (none)) else (none)) else (none)) else (flagstoneref42_Path.j3 k xs w wl cs out (i : Int) (j : Int))) (fun k => by simp only [flagstoneref42_Path.l2, e1, rd_41 hlt, rd_E47 hi]) ?_
    refine Ev.pos (by omega) (Ev.pos (by omega) (Ev.pos (by omega) (Ev.pos (by omega) ?_)))
    rw [idxS_at _ w hlt] at h
    by_cases c : (w[j]).f0 = (xs[i]).f5
    · rw [if_pos c, if_neg (by omega)] at h
      exact Ev.pos c h
    · rw [if_neg c] at h
      exact Ev.neg c (ih (j + 1) (by omega) (by omega) h)
theorem CntRel.upd {w : List S41} {cs : List (List Int)} {cnt : Int → List Int} (h : CntRel w cs cnt) {m : Nat} (hm : m < w.length) {v : Int} (hv : (w[m]).f0 = v) (hi : idxS v 0 w = m) (l : List Int) : CntRel w (cs.set m l) (updC cnt v l) := by
  obtain ⟨h1, h2⟩ := h
  refine ⟨by simpa using h1, fun j hj hji => ?_⟩
  unfold updC rd_L6
  by_cases e : (w[j]).f0 = v
  · rw [if_pos e]
    rw [e, hi] at hji
    have : m = j := by omega
    subst this
    simp [List.getD, h1, hm]
  · rw [if_neg e]
    have hne : m ≠ j := fun q => e (by subst q; exact hv)
    have := h2 j hj hji
    unfold rd_L6 at this
    rw [← this]
    simp [List.getD, hne]
theorem ref_l1 (xs : List S47) (w : List S41) (hx : xs.length ≤ 1000000) (hw : w.length ≤ 1000000) : ∀ n i : Nat, xs.length - i = n → i ≤ xs.length → ∀ (wl : Int) (cs : List (List Int)) (cnt : Int → List Int) (out : List Int), CntRel w cs cnt → (∀ v, (cnt v).length = 2) → out.length ≤ i → Ev (fun k => flagstoneref42_Path.l1 k xs w wl cs out (i : Int)) (pathS w (xs.drop i) wl cnt out) := by
  intro n
  induction n with
  | zero =>
    intro i hn hi wl cs cnt out hr hc ho
    rw [List.drop_eq_nil_of_le (by omega)]
    refine Ev.step (f := fun _ => some out) (fun k => ?_) (Ev.now _)
    simp only [flagstoneref42_Path.l1]
    rw [if_neg (by omega)]
  | succ n ih =>
    intro i hn hi wl cs cnt out hr hc ho
    have hlt : i < xs.length := by omega
    have e1 : wrap64 ((i : Int) + 1) = ((i + 1 : Nat) : Int) := by rw [w64_id (by omega) (by omega)]; omega
    rw [List.drop_eq_getElem_cons hlt]
    unfold pathS
    refine Ev.step (f := fun k => flagstoneref42_Path.l2 k xs w wl cs out (i : Int) ((0 : Nat) : Int)) (fun k => by simp only [flagstoneref42_Path.l1]; rw [if_pos (by omega)]; rfl) ?_
    refine ref_l2 xs w wl cs out i hlt hw _ w.length 0 (by omega) (by omega) ?_
    rw [List.drop_zero]
    have skip4 : ∀ (x10 : Int), skipS w xs[i] = true → Ev (fun k => flagstoneref42_Path.j4 k xs w wl cs out (i : Int) x10 true) (if skipS w xs[i] = true then pathS w (xs.drop (i + 1)) wl cnt out else pathS w (xs.drop (i + 1)) (stepS wl (cnt (xs[i]).f5) (csOf w xs[i]) (xs[i]).f4).1 (updC cnt (xs[i]).f5 (stepS wl (cnt (xs[i]).f5) (csOf w xs[i]) (xs[i]).f4).2) (out ++ [(stepS wl (cnt (xs[i]).f5) (csOf w xs[i]) (xs[i]).f4).1])) := by
      intro x10 hs
      rw [if_pos hs]
      refine Ev.step (fun k => ?_) (ih (i + 1) (by omega) (by omega) wl cs cnt out hr hc (by omega))
      simp only [flagstoneref42_Path.j4]
      rw [if_pos trivial, e1]
    by_cases hneg : idxS (xs[i]).f5 0 w < 0
    · rw [if_pos hneg]
      refine Ev.step (fun k => ?_) (skip4 (w.length : Int) (by unfold skipS; exact decide_eq_true (.inr (.inl hneg))))
      simp only [flagstoneref42_Path.j3]
      rw [if_pos trivial]
    · rw [if_neg hneg]
      obtain ⟨m, em, hm, hv⟩ := idxS_hit (xs[i]).f5 w 0 (by omega)
      rw [Nat.zero_add] at em
      refine Ev.step (f := fun k => if (m : Int) = (w.length : Int) then (flagstoneref42_Path.j4 k xs w wl cs out (i : Int) (m : Int) true) else (if 0 ≤ (i : Int) then (if (i : Int) < (xs.length : Int) then (if (xs[i]).f4 < 1 then (flagstoneref42_Path.j4 k xs w wl cs out (i : Int) (m : Int) true) else (flagstoneref42_Path.j4 k xs w wl cs out (i : Int) (m : Int) (decide ((xs[i]).f4 > 2)))) else (none)) else (none))) (fun k => by rw [em]; simp only [flagstoneref42_Path.j3, rd_E47 hlt]) ?_
      refine Ev.neg (by omega) (Ev.pos (by omega) (Ev.pos (by omega) ?_))
      by_cases ha : (xs[i]).f4 < 1
      · exact Ev.pos ha (skip4 _ (by unfold skipS; exact decide_eq_true (.inl (by omega))))
      · refine Ev.neg ha ?_
        by_cases hb : (xs[i]).f4 > 2
        · rw [decide_eq_true hb]
          exact skip4 _ (by unfold skipS; exact decide_eq_true (.inl (by omega)))
        · rw [decide_eq_false hb]
          have hW := refW_is w (xs[i]).f5 hw w.length 0 (by omega) (by omega) (by rw [List.drop_zero]; omega)
          rw [List.drop_zero, em] at hW
          generalize hC : (rd_T41 w (m : Int)).f1 = c at hW
          generalize hT : (rd_T41 w (m : Int)).f2 = t at hW
          generalize hF : (rd_T41 w (m : Int)).f0 = f at hW
          have hsk : skipS w xs[i] = decide (c < 1 ∨ c > 10000 ∨ t < 1 ∨ t > 10000) := by
            unfold skipS
            rw [em, hC, hT]
            refine decide_eq_decide.mpr ⟨fun h => ?_, fun h => .inr (.inr h)⟩
            rcases h with h | h | h
            · omega
            · omega
            · exact h
          refine Ev.step (f := fun k => (flagstoneref39_Weights.f k w (xs[i]).f5).bind fun bt276 => (if bt276.2.1 < 1 then (flagstoneref42_Path.j5 k xs w wl cs out (i : Int) (m : Int) true bt276.1 bt276.2.1 bt276.2.2.1) else (if bt276.2.1 > 10000 then (flagstoneref42_Path.j5 k xs w wl cs out (i : Int) (m : Int) true bt276.1 bt276.2.1 bt276.2.2.1) else (if bt276.2.2.1 < 1 then (flagstoneref42_Path.j5 k xs w wl cs out (i : Int) (m : Int) true bt276.1 bt276.2.1 bt276.2.2.1) else (flagstoneref42_Path.j5 k xs w wl cs out (i : Int) (m : Int) (decide (bt276.2.2.1 > 10000)) bt276.1 bt276.2.1 bt276.2.2.1))))) (fun k => ?_) ?_
          · simp only [flagstoneref42_Path.j4, rd_E47 hlt]
            rw [if_neg (by decide), if_pos (by omega), if_pos (by omega)]
          refine Ev.bind hW ?_
          dsimp only
          have skip5 : skipS w xs[i] = true → Ev (fun k => flagstoneref42_Path.j5 k xs w wl cs out (i : Int) (m : Int) true f c t) (if skipS w xs[i] = true then pathS w (xs.drop (i + 1)) wl cnt out else pathS w (xs.drop (i + 1)) (stepS wl (cnt (xs[i]).f5) (csOf w xs[i]) (xs[i]).f4).1 (updC cnt (xs[i]).f5 (stepS wl (cnt (xs[i]).f5) (csOf w xs[i]) (xs[i]).f4).2) (out ++ [(stepS wl (cnt (xs[i]).f5) (csOf w xs[i]) (xs[i]).f4).1])) := by
            intro hs
            rw [if_pos hs]
            refine Ev.step (fun k => ?_) (ih (i + 1) (by omega) (by omega) wl cs cnt out hr hc (by omega))
            simp only [flagstoneref42_Path.j5]
            rw [if_pos trivial, e1]
          by_cases d1 : c < 1
          · exact Ev.pos d1 (skip5 (by rw [hsk]; exact decide_eq_true (by omega)))
          refine Ev.neg d1 ?_
          by_cases d2 : c > 10000
          · exact Ev.pos d2 (skip5 (by rw [hsk]; exact decide_eq_true (by omega)))
          refine Ev.neg d2 ?_
          by_cases d3 : t < 1
          · exact Ev.pos d3 (skip5 (by rw [hsk]; exact decide_eq_true (by omega)))
          refine Ev.neg d3 ?_
          by_cases d4 : t > 10000
          · rw [decide_eq_true d4]
            exact skip5 (by rw [hsk]; exact decide_eq_true (by omega))
          rw [decide_eq_false d4]
          rw [if_neg (by rw [hsk]; simpa using (by omega : ¬ (c < 1 ∨ c > 10000 ∨ t < 1 ∨ t > 10000)))]
          have hcnt : rd_L6 cs (m : Int) = cnt (xs[i]).f5 := by
            have := hr.2 m hm (by rw [hv, em])
            rw [this, hv]
          have hcs : csOf w xs[i] = [c, t] := by unfold csOf; rw [em, hC, hT]
          have h2 := hc (xs[i]).f5
          have hcl := hr.1
          rw [hcs]
          refine Ev.step (f := fun k => (flagstoneref42_Step.f k wl (cnt (xs[i]).f5) [c, t] (xs[i]).f4).bind fun bt286 => (if out.length < 17592186044416 then (flagstoneref42_Path.l1 k xs w bt286.1 (cs.set m bt286.2) (out ++ [bt286.1]) ((i + 1 : Nat) : Int)) else (none))) (fun k => ?_) ?_
          · simp only [flagstoneref42_Path.j5, rd_E47 hlt, hcnt, e1, Int.toNat_natCast]
            rw [if_neg (by decide), if_pos (by omega), if_pos (by omega), if_pos (by omega), if_pos (by omega)]
          refine Ev.bind (flagstoneref42_Step_is (by omega)) (Ev.pos (by omega) ?_)
          refine ih (i + 1) (by omega) (by omega) _ _ _ _ (hr.upd hm hv em _) (fun v => ?_) (by simp only [List.length_append, List.length_singleton]; omega)
          unfold updC
          split
          · rw [stepS_length]; exact h2
          · exact hc v
theorem ref_l0 (xs : List S47) (w : List S41) (hx : xs.length ≤ 1000000) (hw : w.length ≤ 1000000) : ∀ n i : Nat, w.length - i = n → i ≤ w.length → ∀ cs : List (List Int), cs.length = w.length → (∀ j : Nat, j < i → rd_L6 cs (j : Int) = [0, 0]) → Ev (fun k => flagstoneref42_Path.l0 k xs w 4294967296 cs (i : Int)) (pathS w xs 4294967296 (fun _ => [0, 0]) []) := by
  intro n
  induction n with
  | zero =>
    intro i hn hi cs hc h0
    refine Ev.step (fun k => ?_) (ref_l1 xs w hx hw xs.length 0 (by omega) (by omega) 4294967296 cs (fun _ => [0, 0]) [] ⟨hc, fun j hj _ => h0 j (by omega)⟩ (fun _ => rfl) (by simp))
    simp only [flagstoneref42_Path.l0]
    rw [if_neg (by omega)]
    rfl
  | succ n ih =>
    intro i hn hi cs hc h0
    have e1 : wrap64 ((i : Int) + 1) = ((i + 1 : Nat) : Int) := by rw [w64_id (by omega) (by omega)]; omega
    refine Ev.step (fun k => ?_) (ih (i + 1) (by omega) (by omega) (cs.set i [0, 0]) (by simpa using hc) (fun j hj => ?_))
    · simp only [flagstoneref42_Path.l0]
      rw [if_pos (by omega), if_pos (by omega), if_pos (by omega), e1, Int.toNat_natCast]
    · unfold rd_L6
      by_cases e : i = j
      · subst e
        simp [List.getD, show i < cs.length by omega]
      · have := h0 j (by omega)
        unfold rd_L6 at this
        rw [← this]
        simp [List.getD, e]
theorem refPath_is (xs : List S47) (w : List S41) (hx : xs.length ≤ 1000000) (hw : w.length ≤ 1000000) : Ev (fun k => flagstoneref42_Path.f k xs w) (pathS w xs 4294967296 (fun _ => [0, 0]) []) := by
  unfold flagstoneref42_Path.f
  refine Ev.pos (by omega) (Ev.pos (by rw [Int.toNat_natCast]; omega) ?_)
  exact ref_l0 xs w hx hw w.length 0 (by omega) (by omega) _ (by simp) (fun j hj => absurd hj (by omega))
theorem balPath_is (xs : List S47) (w : List S41) (hx : xs.length < 1000000) (hw : w.length < 1000000) (hf : ∀ x ∈ xs, (Lit.int .i64 x.f5).wf = true) : Ev (fun k => balance_Path.f k xs w) (pathS w xs 4294967296 (fun _ => [0, 0]) []) := by
  unfold balance_Path.f
  exact Ev.pos ⟨hx, hw⟩ (balP_is w xs _ _ _ hf (fun _ => rfl) (by simp; omega))
end Go.Proofs.Ythkgjkmcmkpkcaa.PA
