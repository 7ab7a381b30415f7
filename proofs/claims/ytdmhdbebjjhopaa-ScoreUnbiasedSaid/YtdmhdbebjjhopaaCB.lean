/- By hand: a row copied behind an empty literal, and one element more; as steps of a region that draws its order. -/
import Derived.Test.YtdmhdbebjjhopaaCA
namespace Go.Proofs.Ytdmhdbebjjhopaa.CA
open Go Go.RowKit Go.Proofs.YtdmhdbebjjhopaaW.PrintWords
set_option linter.unusedVariables false
set_option linter.unusedSimpArgs false

/-- An empty slice that is not nil. -/
def emptyS : Value → Bool
  | .slice (some _) 0 0 => true
  | _ => false
theorem emptyS_is {v : Value} (h : emptyS v = true) : ∃ ad, v = .slice (some ad) 0 0 := by
  unfold emptyS at h
  split at h
  · exact ⟨_, rfl⟩
  · cases h
/-- All blocks of other types stand as they were. -/
def KeepT (e : Nat) (W W' : World) : Prop := ∀ (g : Nat) (cs : Array Value) (t : TypeId) (fr : Nat × Nat), t ≠ e → W.heap[g]? = some (Obj.cells cs t fr) → W'.heap[g]? = some (Obj.cells cs t fr)
theorem keepT_blk {e : Nat} {W W' : World} {g : Nat} {cs : Array Value} {t : TypeId} {fr : Nat × Nat} (h : KeepT e W W') (ht : t ≠ e) (hb : W.heap[g]? = some (Obj.cells cs t fr)) : W'.heap[g]? = some (Obj.cells cs t fr) := h g cs t fr ht hb
theorem gate_step {P : Program} {ops : Array Oper} {o : Oper} {a : Act} {Q : Exit → Act → World → Prop} {Kc : Act → World → Prop} {W : World} {E : Prop} (xs : Array Operand) (ts : Array TypeId)
    (ho : o.op = .call { callee := .builtin .append, args := xs, argTypes := ts }) (h : if Region.wanted o (yielded ops a.tmps) = true then Oper.wp P o a W Kc Q else E) : if Region.wanted o (yielded ops a.tmps) = true then Oper.wp P o a W Kc Q else E := h
theorem blk_new_ {W : World} {o : Obj} {g : Nat} (hg : g = W.heap.size) : (W.alloc o).heap[g]? = some o := by
  subst hg
  exact heap_alloc_new W o
theorem blk_below {W W' : World} {o : Obj} {g : Nat} (hb : Below W.heap.size W W') (h : W.heap[g]? = some o) : W'.heap[g]? = some o := (hb.block g (Array.getElem?_eq_some_iff.1 h).1).trans h
theorem blk_drew_ {W : World} {o : Obj} {g : Nat} (h : W.heap[g]? = some o) : W.drew.heap[g]? = some o := h
theorem blk_alloc_ {W : World} {o : Obj} {g : Nat} (h : W.heap[g]? = some o) (o' : Obj) : (W.alloc o').heap[g]? = some o := (Below.heap_alloc W o' g (Array.getElem?_eq_some_iff.1 h).1).trans h
theorem put3 {W : World} {g t : Nat} {a b c x y z : Value} (h : W.heap[g]? = some (.cells #[a, b, c] t (0, 0))) : (((W.setCell ⟨g, 0, none⟩ x).setCell ⟨g, 1, none⟩ y).setCell ⟨g, 2, none⟩ z).heap[g]? = some (.cells #[x, y, z] t (0, 0)) := by
  refine blk_put (cs := #[x, y, c]) ?_ 2 _ rfl
  refine blk_put (cs := #[x, b, c]) ?_ 1 _ rfl
  exact blk_put h 0 _ rfl
section
variable {P : Program} {α : Type}
/-- A block of rows is read. -/
theorem C_blk (d : Kd α) {W : World} {g e : Nat} {xs : List α} {inner : List Value} (hb : W.heap[g]? = some (.cells inner.toArray e (0, 0))) (hr : Reps (d.K W) d.sz xs inner) (hm : xs.length ≤ 9223372036854775807) : d.C W (some ⟨g, 0, none⟩) xs.length xs := by
  refine ⟨rfl, hm, fun _ => ⟨_, rfl, fun j p hj => ⟨(inner.drop (j * d.sz)).take d.sz, ?_, hr.2 j p hj, fun i u hu => ?_⟩⟩⟩
  · have hjl := (List.getElem?_eq_some_iff.1 hj).1
    have h1 : j * d.sz + d.sz ≤ inner.length := by rw [hr.1, ← Nat.succ_mul]; exact Nat.mul_le_mul_right _ hjl
    rw [List.length_take, List.length_drop]
    omega
  · rw [add_plain, cell_of_row W g _ inner.toArray e (0, 0) hb]
    rw [List.getElem?_take] at hu
    split at hu
    · rw [List.getElem?_drop] at hu
      simpa using hu
    · cases hu
/-- What one element more may be appended to: a full slice that is read, or a row of one's own. -/
def Ext (d : Kd α) (e base : Nat) (W : World) (A : Option Addr) (n c : Nat) (xs : List α) : Prop :=
  (d.C W A n xs ∧ c = n ∧ (A = none → c = 0)) ∨ (n = xs.length ∧ d.R e W base (fun _ => True) (.slice A n c) xs)
theorem Ext.below {d : Kd α} {e base : Nat} {W W' : World} {A : Option Addr} {n c : Nat} {xs : List α} (h : Ext d e base W A n c xs) (hb : Below W.heap.size W W') : Ext d e base W' A n c xs := by
  rcases h with ⟨h1, h2⟩ | ⟨h1, h2⟩
  · exact .inl ⟨Kd.C_below h1 hb, h2⟩
  · exact .inr ⟨h1, Kd.R_below h2 hb⟩
variable {ops : Array Oper} {o : Oper} {a : Act} {Q : Exit → Act → World → Prop}
theorem ext_first_step (d : Kd α) {W : World} {Kc : Act → World → Prop} {E : Prop} (hw : Region.wanted o (yielded ops a.tmps) = true) (s x : Operand) (t e : TypeId) (z : Value) (bytes : Nat)
    (ho : o.op = .call { callee := .builtin .append, args := #[s, x], argTypes := #[t, t] })
    (ht : P.underlying t = some (.slice e)) (hinfo : (P.info? e).map (fun i => (i.zero, i.size, i.bytes)) = some (some z, d.sz, bytes)) (hz : z.cells.size = d.sz) (hs0 : 0 < d.sz) (hb0 : 0 < bytes)
    (hKM : ∀ (w w1 : World) (base : Nat) (ok : Nat → Prop) (x : α) (cs : List Value), d.K w x cs → d.M w1 base ok x cs)
    (base : Nat) (A' : Option Addr) (c : Nat) (ys : List α) (hs : emptyS (a.eval s) = true) (hx : a.eval x = .slice A' ys.length c) (HY : d.C W A' ys.length ys) (hbase : base ≤ W.heap.size) (hl : ys.length * bytes ≤ 140737488355328)
    (h : ∀ A1 c1 w1, Ext d e base w1 A1 ys.length c1 ys → Below W.heap.size W w1 → Kc (a.put o.dst (.slice A1 ys.length c1)) w1) :
    if Region.wanted o (yielded ops a.tmps) = true then Oper.wp P o a W Kc Q else E := by
  obtain ⟨ad, he⟩ := emptyS_is hs
  obtain ⟨i0, hi, hzz⟩ := Option.map_eq_some_iff.1 hinfo
  simp only [Prod.mk.injEq] at hzz
  obtain ⟨hz0, hz1, hz2⟩ := hzz
  have hlen : ys.length ≤ 140737488355328 := Nat.le_trans (Nat.le_mul_of_pos_right _ hb0) hl
  have key : ∃ A1 c1 w1, (Builtin.append_ #[t, t] o.type #[.slice (some ad) 0 0, .slice A' ys.length c]).run P W = .ok (.slice A1 ys.length c1) w1 ∧ Ext d e base w1 A1 ys.length c1 ys ∧ Below W.heap.size W w1 := by
    generalize hm : ys.length = m at *
    rcases Nat.eq_zero_or_pos m with h0 | h0
    · subst h0
      obtain rfl : ys = [] := List.eq_nil_of_length_eq_zero hm
      refine ⟨some ad, 0, W, ?_, .inl ⟨⟨rfl, by omega, fun h => by omega⟩, rfl, fun _ => rfl⟩, Below.refl _ _⟩
      rcases A' with _ | ad'
      · simp [Builtin.append_, run_underlying ht, sizeOf, typeInfo, hi, Builtin.lenOf, Builtin.firstCells, storeCells]
      · have hfc := run_firstCells_some (P := P) W i0.size 0 ad' 0 c [] (by simp) (by simp)
        simp [Builtin.append_, run_underlying ht, sizeOf, typeInfo, hi, Builtin.lenOf, hfc, storeCells]
    · obtain ⟨ad', rfl, _⟩ := HY.2.2 h0
      obtain ⟨news, hnr, hnc⟩ := ReadsRow.inner_ HY
      have hnl : news.length = m * d.sz := by rw [hnr.1, HY.1]
      obtain ⟨v1, w1, hrun, r1, r2⟩ := run_append_arg_grows (P := P) W t o.type e i0 z d.sz bytes ht hi hz0 hz1 hz2 hz hs0 ad 0 0 [] (by simp) (fun j u hu => by simp at hu) ad' m c news hnl hnc (by omega) (by simp only [maxLen]; omega) (by rw [Nat.zero_add]; exact hl)
      rw [Nat.zero_add, List.nil_append] at r1
      have hb : Below W.heap.size W w1 := (Below.refl _ _).grown r2 (Nat.le_refl _) (fun k hk => by cases hk)
      have hR : d.R e w1 base (fun _ => True) v1 ys := Kd.R_lower ⟨fun _ _ => trivial, news, by rw [hm]; exact r1, hnr.imp_ (fun x cs hp => hKM _ _ _ _ x cs hp)⟩ hbase
      obtain ⟨A1, c1, rfl⟩ := Kd.R_slice hR
      rw [hm] at hrun hR
      exact ⟨A1, c1, w1, hrun, .inr ⟨hm.symm, hR⟩, hb⟩
  obtain ⟨A1, c1, w1, hrun, h1, h2⟩ := key
  rw [if_pos hw]
  unfold Oper.wp
  simp [execOp, ho, resolve, invoke, builtin, he, hx, hrun, Result.andThen]
  exact h A1 c1 w1 h1 h2
theorem ext_one_step (d : Kd α) {w0 W : World} {Kc : Act → World → Prop} {E : Prop} (hw : Region.wanted o (yielded ops a.tmps) = true) (s x : Operand) (t e : TypeId) (z : Value) (bytes : Nat)
    (ho : o.op = .call { callee := .builtin .append, args := #[s, x], argTypes := #[t, t] })
    (ht : P.underlying t = some (.slice e)) (hinfo : (P.info? e).map (fun i => (i.zero, i.size, i.bytes)) = some (some z, d.sz, bytes)) (hz : z.cells.size = d.sz) (hs0 : 0 < d.sz) (hb0 : 0 < bytes)
    (hKM : ∀ (w w1 : World) (base : Nat) (ok : Nat → Prop) (x : α) (cs : List Value), d.K w x cs → d.M w1 base ok x cs)
    (base : Nat) (A : Option Addr) (c : Nat) (xs : List α) (p : α) (inner : List Value) (hs : a.eval s = .slice A xs.length c) (g : Nat) (hx : a.eval x = .slice (some ⟨g, 0, none⟩) 1 1) (hg : W.heap[g]? = some (.cells inner.toArray e (0, 0))) (HE : Ext d e base W A xs.length c xs) (hr : Reps (d.K W) d.sz [p] inner)
    (HB : Below base w0 W) (hbase : base ≤ W.heap.size) (hl : (xs.length + 1) * bytes ≤ 140737488355328) (zs : List α) (hzs : zs = xs ++ [p])
    (h : ∀ A1 c1 w1, d.C w1 A1 zs.length zs → zs.length ≤ c1 → Below base w0 w1 → KeepT e W w1 → Kc (a.put o.dst (.slice A1 zs.length c1)) w1) :
    if Region.wanted o (yielded ops a.tmps) = true then Oper.wp P o a W Kc Q else E := by
  have HY : d.C W (some ⟨g, 0, none⟩) 1 [p] := C_blk d hg hr (by simp)
  rcases HE with ⟨h1, h2, h3⟩ | ⟨_, hR⟩
  · refine append_grow_step d hw s x t e z bytes ho ht hinfo hz hs0 hb0 A xs.length c xs (some ⟨g, 0, none⟩) 1 1 [p] hs hx h1 HY (by omega) h3 (fun _ => by omega) hl zs hzs ?_
    intro A1 c1 w1 g1 g2 g3
    refine h A1 c1 w1 g1 g2 (below_then HB hbase g3) (fun g cs t fr _ hg => blk_below g3 hg)
  · have key := fun h' => Kd.R_append_rows_step (P := P) (Q := Q) (Kc := Kc) d (Rr := d.K W) base hw s x t e z bytes ho ht hinfo hz hs0 hb0 (.slice A xs.length c) xs [p] (some ⟨g, 0, none⟩) 1 1 (fun _ => True) (fun _ => False) hs hx hR HY (fun x cs hp => hKM _ _ _ _ x cs hp) (fun k hk => hk.elim) (fun _ _ => trivial) HB hbase hl h'
    rw [if_pos hw]
    simp only [if_pos hw] at key
    refine key ?_
    intro v1 w1 g1 g2 g3 g4
    rw [← hzs] at g1
    obtain ⟨A1, c1, rfl, g5, g6⟩ := Kd.R_reads g1
    refine h A1 c1 w1 g6 g5 g2 (fun g cs t fr ht hg => ?_)
    refine (g3.block g (Array.getElem?_eq_some_iff.1 hg).1 (fun he => ?_)).trans hg
    obtain ⟨cells, hc⟩ := own_typed (Kd.R_own hR).choose_spec g he.symm
    rw [hg] at hc
    injection hc with hc
    injection hc with _ hc
    exact ht hc
end
end Go.Proofs.Ytdmhdbebjjhopaa.CA
