/- By hand: append onto a slice that is read, where it must grow (or nothing is appended): what comes is read as the two lists in line, and nothing else has turned. -/
import Derived.Test.YtdmhdbebjjhopaaWWords
import Derived.ArgAppend
import Derived.Maps.AppendAt
namespace Go.Proofs.Ytdmhdbebjjhopaa.CA
open Go Go.RowKit Go.Proofs.YtdmhdbebjjhopaaW.PrintWords
set_option linter.unusedVariables false
set_option linter.unusedSimpArgs false

theorem reps_one {α : Type} (d : Kd α) {w : World} {ys : List α} {news : List Value} (h : Reps (d.K w) d.sz ys news) (hs0 : 0 < d.sz) : ∀ u ∈ news, u.oneCell' = true := by
  intro u hu
  obtain ⟨q, hq, rfl⟩ := List.mem_iff_getElem.1 hu
  have hql : q / d.sz < ys.length := by
    rw [Nat.div_lt_iff_lt_mul hs0, ← h.1]
    exact hq
  have hc := h.2 (q / d.sz) _ (List.getElem?_eq_getElem hql)
  refine d.K_one hc _ ?_
  rw [List.mem_iff_getElem?]
  refine ⟨q % d.sz, ?_⟩
  rw [List.getElem?_take, if_pos (Nat.mod_lt _ hs0), List.getElem?_drop, Nat.mul_comm, Nat.div_add_mod, List.getElem?_eq_getElem hq]
section
variable {P : Program} {α : Type}
theorem own_C (d : Kd α) {w1 : World} {base e : Nat} {v : Value} {n : Nat} {xs : List α} {inner : List Value} (ho : w1.ownsRow base e d.sz v n inner) (hr : Reps (d.K w1) d.sz xs inner) (hn : xs.length = n) :
    ∃ A c, v = .slice A n c ∧ n ≤ c ∧ d.C w1 A n xs := by
  subst hn
  exact OwnRow.reads ⟨inner, ho, hr⟩
theorem run_grow (d : Kd α) (W : World) (t ty e : TypeId) (z : Value) (bytes : Nat)
    (ht : P.underlying t = some (.slice e)) (hinfo : (P.info? e).map (fun i => (i.zero, i.size, i.bytes)) = some (some z, d.sz, bytes)) (hz : z.cells.size = d.sz) (hs0 : 0 < d.sz) (hb0 : 0 < bytes)
    (A : Option Addr) (n cap : Nat) (xs : List α) (A' : Option Addr) (m c : Nat) (ys : List α) (HX : d.C W A n xs) (HY : d.C W A' m ys) (hn : n ≤ cap) (hA : A = none → cap = 0) (hfull : 0 < m → cap < n + m) (hl : (n + m) * bytes ≤ 140737488355328) :
    ∃ A1 c1 w1, (Builtin.append_ #[t, t] ty #[.slice A n cap, .slice A' m c]).run P W = .ok (.slice A1 (n + m) c1) w1 ∧ d.C w1 A1 (n + m) (xs ++ ys) ∧ n + m ≤ c1 ∧ Below W.heap.size W w1 := by
  obtain ⟨i0, hi, hzz⟩ := Option.map_eq_some_iff.1 hinfo
  simp only [Prod.mk.injEq] at hzz
  obtain ⟨hz0, hz1, hz2⟩ := hzz
  have hlen : n + m ≤ 140737488355328 := Nat.le_trans (Nat.le_mul_of_pos_right _ hb0) hl
  rcases Nat.eq_zero_or_pos m with h0 | h0
  · subst h0
    obtain rfl : ys = [] := List.eq_nil_of_length_eq_zero HY.1
    refine ⟨A, cap, W, ?_, by simpa using HX, by omega, Below.refl _ _⟩
    rcases A' with _ | ad'
    · rcases A with _ | ad
      · obtain rfl := hA rfl
        obtain rfl : n = 0 := by omega
        simp [Builtin.append_, run_underlying ht, sizeOf, typeInfo, hi, Builtin.lenOf, Builtin.firstCells, storeCells]
      · simp [Builtin.append_, run_underlying ht, sizeOf, typeInfo, hi, Builtin.lenOf, Builtin.firstCells, storeCells, hn]
    · have hfc := run_firstCells_some (P := P) W i0.size 0 ad' 0 c [] (by simp) (by simp)
      rcases A with _ | ad
      · obtain rfl := hA rfl
        obtain rfl : n = 0 := by omega
        simp [Builtin.append_, run_underlying ht, sizeOf, typeInfo, hi, Builtin.lenOf, hfc, storeCells]
      · simp [Builtin.append_, run_underlying ht, sizeOf, typeInfo, hi, Builtin.lenOf, hfc, storeCells, hn]
  · obtain ⟨ad', rfl, _⟩ := HY.2.2 h0
    obtain ⟨news, hnr, hnc⟩ := ReadsRow.inner_ HY
    have hnl : news.length = m * d.sz := by rw [hnr.1, HY.1]
    have fin : ∀ v1 w1 (olds : List Value), Reps (d.K W) d.sz xs olds → w1.ownsRow W.heap.size e d.sz v1 (n + m) (olds ++ news) → W.grownBy w1 none → ∃ A1 c1, v1 = .slice A1 (n + m) c1 ∧ n + m ≤ c1 ∧ d.C w1 A1 (n + m) (xs ++ ys) ∧ Below W.heap.size W w1 := by
      intro v1 w1 olds hro hown hg
      have hb : Below W.heap.size W w1 := (Below.refl _ _).grown hg (Nat.le_refl _) (fun k hk => by cases hk)
      obtain ⟨A1, c1, e1, h1, h2⟩ := own_C d hown (Kd.reps_append (hro.imp_ (fun _ _ hp => d.K_below hb hp)) (hnr.imp_ (fun _ _ hp => d.K_below hb hp))) (by rw [List.length_append, HX.1, HY.1])
      exact ⟨A1, c1, e1, h1, h2, hb⟩
    rcases A with _ | ad
    · obtain rfl := hA rfl
      obtain rfl : n = 0 := by omega
      obtain rfl : xs = [] := List.eq_nil_of_length_eq_zero HX.1
      obtain ⟨v1, w1, hrun, r1, r2, _⟩ := run_append_own (P := P) W W.heap.size t ty e i0 z d.sz bytes ht hi hz0 hz1 hz2 hz hs0 (.slice none 0 0) 0 [] (World.ownsRow_nil W _ e d.sz) ad' m c news hnl hnc (reps_one d hnr hs0) (by simp only [maxLen]; omega) hl (Nat.le_refl _)
      obtain ⟨A1, c1, rfl, h1, h2, h3⟩ := fin v1 w1 [] (Reps.none _ _) r1 r2
      exact ⟨A1, c1, w1, hrun, h2, h1, h3⟩
    · obtain ⟨olds, hor, hoc⟩ := ReadsRow.inner_ HX
      obtain ⟨v1, w1, hrun, r1, r2⟩ := run_append_arg_grows (P := P) W t ty e i0 z d.sz bytes ht hi hz0 hz1 hz2 hz hs0 ad n cap olds (by rw [hor.1, HX.1]) hoc ad' m c news hnl hnc (hfull h0) (by simp only [maxLen]; omega) hl
      obtain ⟨A1, c1, rfl, h1, h2, h3⟩ := fin v1 w1 olds hor r1 r2
      exact ⟨A1, c1, w1, hrun, h2, h1, h3⟩
variable {ops : Array Oper} {rest : List Oper} {o : Oper} {a : Act} {Q : Exit → Act → World → Prop}
theorem append_grow (d : Kd α) {W : World} (hgd : o.guard = none) (s x : Operand) (t e : TypeId) (z : Value) (bytes : Nat)
    (ho : o.op = .call { callee := .builtin .append, args := #[s, x], argTypes := #[t, t] })
    (ht : P.underlying t = some (.slice e)) (hinfo : (P.info? e).map (fun i => (i.zero, i.size, i.bytes)) = some (some z, d.sz, bytes)) (hz : z.cells.size = d.sz) (hs0 : 0 < d.sz) (hb0 : 0 < bytes)
    (A : Option Addr) (n cap : Nat) (xs : List α) (A' : Option Addr) (m c : Nat) (ys : List α) (hs : a.eval s = .slice A n cap) (hx : a.eval x = .slice A' m c) (HX : d.C W A n xs) (HY : d.C W A' m ys) (hn : n ≤ cap) (hA : A = none → cap = 0) (hfull : 0 < m → cap < n + m) (hl : (n + m) * bytes ≤ 140737488355328) (zs : List α) (hzs : zs = xs ++ ys)
    (h : ∀ A1 c1 w1, d.C w1 A1 zs.length zs → zs.length ≤ c1 → Below W.heap.size W w1 → wpList P ops Q rest (a.put o.dst (.slice A1 zs.length c1)) w1) :
    wpList P ops Q (o :: rest) a W := by
  obtain ⟨A1, c1, w1, hrun, h1, h2, h3⟩ := run_grow (P := P) d W t o.type e z bytes ht hinfo hz hs0 hb0 A n cap xs A' m c ys HX HY hn hA hfull hl
  have hnm : n + m = zs.length := by rw [hzs, List.length_append, HX.1, HY.1]
  rw [hnm, ← hzs] at h1
  rw [hnm] at hrun h2
  refine wpList_plain hgd fun K hK' => ?_
  unfold Oper.wp
  simp [execOp, ho, resolve, invoke, builtin, hs, hx, hrun, Result.andThen]
  exact hK' _ _ (h A1 c1 w1 h1 h2 h3)
theorem append_grow_step (d : Kd α) {W : World} {Kc : Act → World → Prop} {E : Prop} (hw : Region.wanted o (yielded ops a.tmps) = true) (s x : Operand) (t e : TypeId) (z : Value) (bytes : Nat)
    (ho : o.op = .call { callee := .builtin .append, args := #[s, x], argTypes := #[t, t] })
    (ht : P.underlying t = some (.slice e)) (hinfo : (P.info? e).map (fun i => (i.zero, i.size, i.bytes)) = some (some z, d.sz, bytes)) (hz : z.cells.size = d.sz) (hs0 : 0 < d.sz) (hb0 : 0 < bytes)
    (A : Option Addr) (n cap : Nat) (xs : List α) (A' : Option Addr) (m c : Nat) (ys : List α) (hs : a.eval s = .slice A n cap) (hx : a.eval x = .slice A' m c) (HX : d.C W A n xs) (HY : d.C W A' m ys) (hn : n ≤ cap) (hA : A = none → cap = 0) (hfull : 0 < m → cap < n + m) (hl : (n + m) * bytes ≤ 140737488355328) (zs : List α) (hzs : zs = xs ++ ys)
    (h : ∀ A1 c1 w1, d.C w1 A1 zs.length zs → zs.length ≤ c1 → Below W.heap.size W w1 → Kc (a.put o.dst (.slice A1 zs.length c1)) w1) :
    if Region.wanted o (yielded ops a.tmps) = true then Oper.wp P o a W Kc Q else E := by
  obtain ⟨A1, c1, w1, hrun, h1, h2, h3⟩ := run_grow (P := P) d W t o.type e z bytes ht hinfo hz hs0 hb0 A n cap xs A' m c ys HX HY hn hA hfull hl
  have hnm : n + m = zs.length := by rw [hzs, List.length_append, HX.1, HY.1]
  rw [hnm, ← hzs] at h1
  rw [hnm] at hrun h2
  rw [if_pos hw]
  unfold Oper.wp
  simp [execOp, ho, resolve, invoke, builtin, hs, hx, hrun, Result.andThen]
  exact h A1 c1 w1 h1 h2 h3
/-- A literal of rows is read. -/
theorem lit_C (d : Kd α) (W : World) (e : Nat) {xs : List α} {inner : List Value} (hr : Reps (d.K W) d.sz xs inner) (hm : xs.length ≤ 9223372036854775807) : d.C (W.alloc (.cells inner.toArray e)) (some ⟨W.heap.size, 0, none⟩) xs.length xs := by
  have h := OwnRow.lit (R := d.K (W.alloc (.cells inner.toArray e))) (size := d.sz) (e := e) W W.heap.size (hr.imp_ (fun _ _ hp => d.K_below (below_alloc (Below.refl _ _) _) hp)) (Nat.le_refl _) hm
  obtain ⟨A, c, e1, _, h2⟩ := OwnRow.reads h
  injection e1 with e1
  subst e1
  exact h2
theorem C_take (d : Kd α) {W : World} {A : Option Addr} {n : Nat} {xs : List α} (h : d.C W A n xs) (i : Nat) (hi : i ≤ n) : d.C W A i (xs.take i) := by
  refine ⟨by rw [List.length_take, h.1]; omega, by have := h.2.1; omega, fun h0 => ?_⟩
  obtain ⟨ad, e, hc⟩ := h.2.2 (by omega)
  refine ⟨ad, e, fun j p hp => hc j p ?_⟩
  rw [List.getElem?_take] at hp
  split at hp
  · exact hp
  · cases hp
theorem C_drop (d : Kd α) {W : World} {A : Option Addr} {n : Nat} {xs : List α} (h : d.C W A n xs) (i : Nat) (hi : i < n) : ∃ ad, A = some ad ∧ d.C W (some (ad.add (i * d.sz))) (n - i) (xs.drop i) := by
  obtain ⟨ad, e, hc⟩ := h.2.2 (by omega)
  refine ⟨ad, e, by rw [List.length_drop, h.1], by have := h.2.1; omega, fun _ => ⟨_, rfl, fun j p hp => ?_⟩⟩
  rw [List.getElem?_drop] at hp
  obtain ⟨cs, h1, h2, h3⟩ := hc _ p hp
  refine ⟨cs, h1, h2, fun k u hu => ?_⟩
  have := h3 k u hu
  rw [show (i + j) * d.sz + k = i * d.sz + (j * d.sz + k) by rw [Nat.add_mul]; omega] at this
  rw [← this]
  congr 1
  unfold Addr.add
  repeat' split
  all_goals first | rfl | (simp_all <;> omega)
end
end Go.Proofs.Ytdmhdbebjjhopaa.CA
