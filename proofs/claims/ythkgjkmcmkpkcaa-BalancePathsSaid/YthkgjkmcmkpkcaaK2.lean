/- By hand: where the test of balance stands, in the midst of Path. -/
import Derived.Test.YthkgjkmcmkpkcaaK1
namespace Go.Proofs.Ythkgjkmcmkpkcaa.PA
open Go Go.RowKit Go.Maps Go.Proofs.YthkgjkmcmkpkcaaW.PrintWords Go.Proofs.YthkgjkmcmkpkcaaW.PrintLast Go.Proofs.YthkgjkmcmkpkcaaW.PrintMore
set_option linter.unusedVariables false
set_option linter.unusedSimpArgs false

theorem law3 : Keyed Try.prog 3 := int_keyed Try.underlying3
theorem zero22 (w : World) : (zeroValue 22).run Try.prog w = .ok (.slice none 0 0) w := by kernel_rfl
/-- All blocks but b stand as they were. -/
def Far (b : Nat) (W W' : World) : Prop := W.heap.size ≤ W'.heap.size ∧ ∀ j, j < W.heap.size → j ≠ b → W'.heap[j]? = W.heap[j]?
theorem Far.grown {b : Nat} {W W' : World} (h : W.grownBy W' (some b)) : Far b W W' := ⟨h.size, fun j hj hb => h.block j hj (by simpa using hb)⟩
theorem R_away {d : Kd Int} {W W' : World} {e base : Nat} {ok : Nat → Prop} {v : Value} {zs : List Int} {b : Nat} (h : d.R e W base ok v zs) (hm : ∃ es clock, W.heap[b]? = some (Obj.map es clock)) (hf : Far b W W') : d.R e W' base ok v zs := by
  obtain ⟨es, clock, hm⟩ := hm
  refine Kd.R_mono (Kd.R_step (Kd.R_bound h) (fun k hk hlt => hf.2 k hlt (fun he => ?_))) (fun k hk => hk.1)
  obtain ⟨_, _, _, q, _, cells, hc⟩ := hk
  subst he
  rw [hm] at hc
  cases hc
/-- A slice in the map reads as itself. -/
def Rv (v : Value) : Option (DataW Value × List MemPlace) := some (.held v, [])
/-- What the counts of a version are in, in the map. -/
def Entry (w : World) (cnt : Int → List Int) (vo : Value) (W : World) (D : DataW Value) (v : Int) : Prop :=
  (Maps.has D (.int .i64 v) = false ∧ cnt v = [0, 0]) ∨
  (Maps.has D (.int .i64 v) = true ∧ ∃ A c, D.atKey (.int .i64 v) (.held (.slice none 0 0)) = .held (.slice A (cnt v).length c) ∧ (Kd.int .i64).R 3 W w.heap.size (fun k => some k ≠ vo.ownBlock) (.slice A (cnt v).length c) (cnt v))
structure PathI (w : World) (b n : Nat) (cnt : Int → List Int) (vo : Value) (out : List Int) (W : World) : Prop where
  new : w.heap.size ≤ b
  below : Below w.heap.size w W
  map : ∃ D : DataW Value, W.ownsMap Try.prog 3 Rv b n D ∧ ∀ v, (Lit.int .i64 v).wf = true → Entry w cnt vo W D v
  out : (Kd.int .i64).R 3 W w.heap.size (fun _ => True) vo out
section
variable {w W W' : World} {b n : Nat} {cnt : Int → List Int} {vo : Value} {out : List Int}
theorem own_isMap {D : DataW Value} (h : W.ownsMap Try.prog 3 Rv b n D) : ∃ es clock, W.heap[b]? = some (Obj.map es clock) := by
  obtain ⟨es, clock, h1, _⟩ := h
  exact ⟨_, _, h1⟩
theorem own_below' {D : DataW Value} (h : W.ownsMap Try.prog 3 Rv b n D) (hb : Below W.heap.size W W') : W'.ownsMap Try.prog 3 Rv b n D := by
  have hlt := h.lt
  obtain ⟨es, clock, h1, F, hs, hD⟩ := h
  exact ⟨es, clock, (hb.block b hlt).trans h1, F, hs, hD⟩
theorem PathI.step (h : PathI w b n cnt vo out W) (hb : Below W.heap.size W W') : PathI w b n cnt vo out W' := by
  obtain ⟨h1, h2, ⟨D, h3, h4⟩, h5⟩ := h
  refine ⟨h1, below_step h2 hb, ⟨D, own_below' h3 hb, fun v hv => ?_⟩, Kd.R_below h5 hb⟩
  rcases h4 v hv with h | ⟨h, A, c, e, r⟩
  · exact .inl h
  · exact .inr ⟨h, A, c, e, Kd.R_below r hb⟩
theorem PathI.set (h : PathI w b n cnt vo out W) {g : Nat} {t : TypeId} {cs : Array Value} (hg : W.heap[g]? = some (.cells cs t (0, 0))) (ht : 3 ≠ t) (hge : w.heap.size ≤ g) (i : Nat) (u : Value) : PathI w b n cnt vo out (W.setCell ⟨g, i, none⟩ u) := by
  obtain ⟨h1, h2, ⟨D, h3, h4⟩, h5⟩ := h
  have hbg : b ≠ g := by
    rintro rfl
    obtain ⟨es, clock, hm⟩ := own_isMap h3
    rw [hg] at hm
    cases hm
  have mv : ∀ {ok : Nat → Prop} {v : Value} {zs : List Int}, (Kd.int .i64).R 3 W w.heap.size ok v zs → (Kd.int .i64).R 3 (W.setCell ⟨g, i, none⟩ u) w.heap.size ok v zs := fun hr =>
    Kd.R_mono (Kd.R_far (p := ⟨g, i, none⟩) (Kd.R_types hr hg (by intro q hq; have : q = 3 := by simpa [Kd.int, Kd.scalar] using hq
                                                                  subst this; exact ht)) (fun _ hk => hk.2) u) (fun _ hk => hk.1)
  refine ⟨h1, below_set h2 hge, ⟨D, h3.setCell hbg u, fun v hv => ?_⟩, mv h5⟩
  rcases h4 v hv with h | ⟨h, A, c, e, r⟩
  · exact .inl h
  · exact .inr ⟨h, A, c, e, mv r⟩
/-- An exposure is laid into its variable. -/
theorem store6 {g t : Nat} {a0 a1 a2 a3 a4 a5 z0 z1 z2 z3 z4 z5 : Value} (hg : W.heap[g]? = some (.cells #[z0, z1, z2, z3, z4, z5] t (0, 0))) : ((((((W.setCell ⟨g, 0, none⟩ a0).setCell ⟨g, 1, none⟩ a1).setCell ⟨g, 2, none⟩ a2).setCell ⟨g, 3, none⟩ a3).setCell ⟨g, 4, none⟩ a4).setCell ⟨g, 5, none⟩ a5).heap[g]? = some (.cells #[a0, a1, a2, a3, a4, a5] t (0, 0)) := by
  refine blk_put (cs := #[a0, a1, a2, a3, a4, z5]) ?_ 5 _ rfl
  refine blk_put (cs := #[a0, a1, a2, a3, z4, z5]) ?_ 4 _ rfl
  refine blk_put (cs := #[a0, a1, a2, z3, z4, z5]) ?_ 3 _ rfl
  refine blk_put (cs := #[a0, a1, z2, z3, z4, z5]) ?_ 2 _ rfl
  refine blk_put (cs := #[a0, z1, z2, z3, z4, z5]) ?_ 1 _ rfl
  exact blk_put hg 0 _ rfl
theorem PathI.store6 {g t : Nat} {a0 a1 a2 a3 a4 a5 z0 z1 z2 z3 z4 z5 : Value} (h : PathI w b n cnt vo out W) (hg : W.heap[g]? = some (.cells #[z0, z1, z2, z3, z4, z5] t (0, 0))) (ht : 3 ≠ t) (hge : w.heap.size ≤ g) : PathI w b n cnt vo out ((((((W.setCell ⟨g, 0, none⟩ a0).setCell ⟨g, 1, none⟩ a1).setCell ⟨g, 2, none⟩ a2).setCell ⟨g, 3, none⟩ a3).setCell ⟨g, 4, none⟩ a4).setCell ⟨g, 5, none⟩ a5) := by
  have g0 := blk_set hg 0 a0
  have g1 := blk_set g0 1 a1
  have g2 := blk_set g1 2 a2
  have g3 := blk_set g2 3 a3
  have g4 := blk_set g3 4 a4
  exact (((((h.set hg ht hge 0 a0).set g0 ht hge 1 a1).set g1 ht hge 2 a2).set g2 ht hge 3 a3).set g3 ht hge 4 a4).set g4 ht hge 5 a5
/-- The counts of a version are new. -/
def updC (cnt : Int → List Int) (v : Int) (l : List Int) : Int → List Int := fun u => if u = v then l else cnt u
theorem PathI.put {D : DataW Value} {v : Int} {l : List Int} {A : Option Addr} {c : Nat} (h : PathI w b n cnt vo out W) (hs : ∀ v, (Lit.int .i64 v).wf = true → Entry w cnt vo W D v) (hD : IsMap D) (hm : ∃ es clock, W.heap[b]? = some (Obj.map es clock))
    (hr : (Kd.int .i64).R 3 W w.heap.size (fun k => some k ≠ vo.ownBlock) (.slice A l.length c) l) (ho : W'.ownsMap Try.prog 3 Rv b (n + 1) (D.put (.int .i64 v) (.held (.slice A l.length c)))) (hg : W.grownBy W' (some b)) : PathI w b (n + 1) (updC cnt v l) vo out W' := by
  have hf := Far.grown hg
  refine ⟨h.new, h.below.grown hg h.below.size (fun k hk => by cases hk; exact h.new), ⟨_, ho, fun u hu => ?_⟩, R_away h.out hm hf⟩
  unfold Entry updC
  by_cases he : u = v
  · subst he
    rw [if_pos rfl]
    have hk : WideAt.IsKeyLit (Lit.int .i64 u) := by first | exact trivial | simp [WideAt.IsKeyLit]
    exact .inr ⟨has_put_same hD hk _, A, c, atKey_put_same hD hk _ _, R_away hr hm hf⟩
  · rw [if_neg he]
    have hne : Lit.int .i64 u ≠ Lit.int .i64 v := fun h => by injection h with h1 h2; exact he h2
    rw [has_put_other hne, atKey_put_other hne]
    rcases hs u hu with h | ⟨h, A', c', e, r⟩
    · exact .inl h
    · exact .inr ⟨h, A', c', e, R_away r hm hf⟩
/-- The row of the answers has grown. -/
theorem PathI.app {vo' : Value} {out' : List Int} (h : PathI w b n cnt vo out W) (hr : (Kd.int .i64).R 3 W' w.heap.size (fun _ => True) vo' out') (hb : Below w.heap.size w W') (hg : W.grownBy W' vo.ownBlock) (hat : vo'.ownBlock = vo.ownBlock ∨ ∃ b, vo'.ownBlock = some b ∧ W.heap.size ≤ b) : PathI w b n cnt vo' out' W' := by
  obtain ⟨h1, h2, ⟨D, h3, h4⟩, h5⟩ := h
  have hne : some b ≠ vo.ownBlock := by
    obtain ⟨es, clock, hm⟩ := own_isMap h3
    intro e
    obtain ⟨_, _, q, _, cells, hc⟩ := (Kd.R_bound h5).1 b e.symm |>.2
    rw [hm] at hc
    cases hc
  refine ⟨h1, hb, ⟨D, h3.kept hg hne, fun v hv => ?_⟩, hr⟩
  rcases h4 v hv with h | ⟨h, A, c, e, r⟩
  · exact .inl h
  · exact .inr ⟨h, A, c, e, Kd.R_mono (Kd.R_after (ok := fun _ => True) (Kd.R_mono r (fun _ hk => ⟨trivial, hk⟩)) hg hat) (fun _ hk => hk.2)⟩
end
theorem idxS_in (v : Int) : ∀ (l : List S41) (i : Nat), idxS v i l = -1 ∨ (i : Int) ≤ idxS v i l ∧ idxS v i l < i + l.length
  | [], _ => .inl rfl
  | y :: l, i => by
    unfold idxS
    by_cases h : y.f0 = v
    · rw [if_pos h]
      exact .inr ⟨Int.le_refl _, by simp only [List.length_cons]; omega⟩
    · rw [if_neg h]
      rcases idxS_in v l (i + 1) with q | q
      · exact .inl q
      · exact .inr ⟨by omega, by simp only [List.length_cons]; omega⟩
end Go.Proofs.Ythkgjkmcmkpkcaa.PA
