/- What Path answers, of the program and of the document's text: the three bets, played one score after the other. -/
import Derived.Test.YtdclcdaoidbgbaaPA3
import Derived.Test.YtdclcdaoidbgbaaM4
namespace Go.Proofs.Ytdclcdaoidbgbaa.PA
open Go Go.RowKit Go.Proofs.YtdclcdaoidbgbaaW.PrintWords Go.Proofs.YtdclcdaoidbgbaaW.PrintLast Go.Proofs.YtdclcdaoidbgbaaW.PrintMore Go.Proofs.Ytdclcdaoidbgbaa.M
set_option linter.unusedVariables false
set_option linter.unusedSimpArgs false

theorem growS_range (w num den : Int) : 0 ≤ growS w num den ∧ growS w num den ≤ 2305843009213693952 := by
  unfold growS
  split
  · omega
  · rename_i h
    have : 0 ≤ w * num / den := Int.ediv_nonneg (Int.mul_nonneg (by omega) (by omega)) (by omega)
    split <;> omega
theorem factorS_most (n u r e b : Int) (up : Bool) : (factorS n u r e b up).1 ≤ 9223372036854775807 := by
  unfold factorS
  split
  · rename_i h
    have g := gain_bound h.1 h.2.1 h.2.2.1 h.2.2.2.1 h.2.2.2.2
    split <;> simp only <;> omega
  · simp
/-- One bet, one score. -/
def betS (e : Int) (up : Bool) (b w : Int) (s : S50) : Int := growS w (factorS s.f0 s.f1 s.f2 e b up).1 (factorS s.f0 s.f1 s.f2 e b up).2
theorem betS_range (e : Int) (up : Bool) (b w : Int) (s : S50) : 0 ≤ betS e up b w s ∧ betS e up b w s ≤ 2305843009213693952 := growS_range _ _ _
/-- The wealths behind the next scores: of the bets 1, 2, 4 together, divided by 3. -/
def pathS (e : Int) (up : Bool) : Int → Int → Int → List S50 → List Int
  | _, _, _, [] => []
  | a, b, c, s :: l => (betS e up 1 a s + betS e up 2 b s + betS e up 4 c s) / 3 :: pathS e up (betS e up 1 a s) (betS e up 2 b s) (betS e up 4 c s) l
theorem pathS_length (e : Int) (up : Bool) : ∀ (l : List S50) (a b c : Int), (pathS e up a b c l).length = l.length
  | [], _, _, _ => rfl
  | s :: l, a, b, c => by simp only [pathS, List.length_cons, pathS_length e up l]
theorem rd_S {xs : List S50} {i : Nat} (h : i < xs.length) : rd_T50 xs (i : Int) = xs[i] := by
  unfold rd_T50
  simp [h]
theorem rd_S_nat {xs : List Int} {i : Nat} (h : i < xs.length) : rd xs (i : Int) = xs[i] := by
  unfold rd
  simp [h]

theorem wealth_Path_is (l : List S50) (e : Int) (up : Bool) (hm : l.length < 5864062014805) : Ev (fun k => wealth_Path.f k l e up) (pathS e up 4294967296 4294967296 4294967296 l) := by
  unfold wealth_Path.f
  have go : ∀ n i, l.length - i = n → i ≤ l.length → ∀ (out : List Int) (a b c : Int), out.length = i → Ev (fun k => wealth_Path.l0 k e up out l (l.length : Int) (i : Int) 1 2 4 a b c) (out ++ pathS e up a b c (l.drop i)) := by
    intro n
    induction n with
    | zero =>
      intro i hn hi out a b c ho
      rw [List.drop_of_length_le (by omega)]
      refine Ev.step (f := fun _ => some out) (fun k => ?_) (by simp only [pathS, List.append_nil]; exact Ev.now _)
      simp only [wealth_Path.l0]
      rw [if_neg (by omega)]
    | succ n ih =>
      intro i hn hi out a b c ho
      have hl : i < l.length := by omega
      have hwi : wrap64 ((i : Int) + 1) = ((i + 1 : Nat) : Int) := by rw [w64_id (by omega) (by omega)]; omega
      rw [List.drop_eq_getElem_cons hl]
      simp only [pathS]
      generalize hs : l[i] = s
      have rs := rd_S hl
      rw [hs] at rs
      have r1 := betS_range e up 1 a s
      have r2 := betS_range e up 2 b s
      have r4 := betS_range e up 4 c s
      have w1 : wrap64 (0 + 1) = 1 := w64_id (by omega) (by omega)
      have w2 : wrap64 (1 + 1) = 2 := w64_id (by omega) (by omega)
      have w3 : wrap64 (2 + 1) = 3 := w64_id (by omega) (by omega)
      refine Ev.step (f := fun k => wealth_Path.l1 k e up out 0 l (l.length : Int) (i : Int) 0 1 2 4 1 2 4 a b c s.f0 s.f1 s.f2) (fun k => ?_) ?_
      · simp only [wealth_Path.l0]
        rw [if_pos (by omega), if_pos (by omega), if_pos (by omega), rs]
      refine Ev.step (f := fun k => (wealth_Factor.f k s.f0 s.f1 s.f2 e 1 up).bind fun bt => ((wealth_Grow.f k a bt.1 bt.2).bind fun t => (wealth_Path.l1 k e up out (wrap64 (0 + t)) l (l.length : Int) (i : Int) 1 1 2 4 1 2 4 t b c s.f0 s.f1 s.f2))) (fun k => ?_) ?_
      · simp only [wealth_Path.l1]
        rw [if_pos (by decide), if_pos (by decide), w1]
      refine Ev.bind (wealth_Factor_is _ _ _ _ _ _) (Ev.bind (wealth_Grow_is (factorS_most _ _ _ _ _ _)) ?_)
      rw [w64_id (x := 0 + _) (by have := growS_range a (factorS s.f0 s.f1 s.f2 e 1 up).1 (factorS s.f0 s.f1 s.f2 e 1 up).2; omega) (by have := growS_range a (factorS s.f0 s.f1 s.f2 e 1 up).1 (factorS s.f0 s.f1 s.f2 e 1 up).2; omega)]
      refine Ev.step (f := fun k => (wealth_Factor.f k s.f0 s.f1 s.f2 e 2 up).bind fun bt => ((wealth_Grow.f k b bt.1 bt.2).bind fun t => (wealth_Path.l1 k e up out (wrap64 (0 + betS e up 1 a s + t)) l (l.length : Int) (i : Int) 2 1 2 4 1 2 4 (betS e up 1 a s) t c s.f0 s.f1 s.f2))) (fun k => ?_) ?_
      · simp only [wealth_Path.l1]
        rw [if_pos (by decide), if_neg (by decide), if_pos (by decide), w2]
        rfl
      refine Ev.bind (wealth_Factor_is _ _ _ _ _ _) (Ev.bind (wealth_Grow_is (factorS_most _ _ _ _ _ _)) ?_)
      rw [show growS b (factorS s.f0 s.f1 s.f2 e 2 up).1 (factorS s.f0 s.f1 s.f2 e 2 up).2 = betS e up 2 b s from rfl]
      rw [w64_id (x := 0 + betS e up 1 a s + betS e up 2 b s) (by omega) (by omega)]
      refine Ev.step (f := fun k => (wealth_Factor.f k s.f0 s.f1 s.f2 e 4 up).bind fun bt => ((wealth_Grow.f k c bt.1 bt.2).bind fun t => (wealth_Path.l1 k e up out (wrap64 (0 + betS e up 1 a s + betS e up 2 b s + t)) l (l.length : Int) (i : Int) 3 1 2 4 1 2 4 (betS e up 1 a s) (betS e up 2 b s) t s.f0 s.f1 s.f2))) (fun k => ?_) ?_
      · simp only [wealth_Path.l1]
        rw [if_pos (by decide), if_neg (by decide), if_neg (by decide), if_pos (by decide), w3]
      refine Ev.bind (wealth_Factor_is _ _ _ _ _ _) (Ev.bind (wealth_Grow_is (factorS_most _ _ _ _ _ _)) ?_)
      rw [show growS c (factorS s.f0 s.f1 s.f2 e 4 up).1 (factorS s.f0 s.f1 s.f2 e 4 up).2 = betS e up 4 c s from rfl]
      rw [w64_id (x := 0 + betS e up 1 a s + betS e up 2 b s + betS e up 4 c s) (by omega) (by omega)]
      have hd : wrap64 (Int.tdiv (0 + betS e up 1 a s + betS e up 2 b s + betS e up 4 c s) 3) = (betS e up 1 a s + betS e up 2 b s + betS e up 4 c s) / 3 := by
        rw [Int.tdiv_eq_ediv_of_nonneg (by omega), w64_id (by omega) (by omega), Int.zero_add]
      have hn2 := ih (i + 1) (by omega) (by omega) (out ++ [(betS e up 1 a s + betS e up 2 b s + betS e up 4 c s) / 3]) (betS e up 1 a s) (betS e up 2 b s) (betS e up 4 c s) (by simp; omega)
      rw [List.append_assoc] at hn2
      refine Ev.step (fun k => ?_) hn2
      simp only [wealth_Path.l1]
      rw [if_neg (by decide), if_pos (by omega), hd, hwi]
  have h := go l.length 0 (by omega) (by omega) [] 4294967296 4294967296 4294967296 rfl
  simpa using h

end Go.Proofs.Ytdclcdaoidbgbaa.PA
