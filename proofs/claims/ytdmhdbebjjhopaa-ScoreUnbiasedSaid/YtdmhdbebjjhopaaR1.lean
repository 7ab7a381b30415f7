/- Arguments: what an argument of a law holds, as one of the call's kinds: whole numbers, truth values, texts, slices, structs. -/
import Derived.Test.YtdmhdbebjjhopaaWWords
import Derived.Deep.Slices
import Derived.ChangeArms
import Derived.WideShapes
namespace Go.Proofs.Ytdmhdbebjjhopaa.A
open Go Go.RowKit Go.Proofs.YtdmhdbebjjhopaaW.PrintWords Go.ChangeShapes Go.WideShapes Go.Deep
set_option linter.unusedVariables false
set_option linter.unusedSimpArgs false

/-- What is read as type t is of kind k, and ok. -/
def Rd (P : Program) (t : TypeId) {α : Type} (k : Kd α) (ok : α → Prop) : Prop :=
  ∀ (H : Type) (enc : TypeId × Value → H) (w : World) (base : Nat) (spare : Nat → Bool) (held : Bool) (fuel : Nat) (cs : List Value) (x : DataW H × List MemPlace),
    DataW.trod enc P w base spare held fuel t cs = some x → ∃ y, k.K w y cs ∧ ok y
theorem Rd.int {P : Program} {t : TypeId} {kk : IntKind} (ht : P.underlying t = some (.int kk)) : Rd P t (Kd.int kk) (fun n => (Lit.int kk n).wf = true) := by
  intro H enc w base spare held fuel cs x h
  obtain ⟨n, rfl, _, hw⟩ := DataW.trod_int ht h
  exact ⟨n, rfl, hw⟩
theorem Rd.bool {P : Program} {t : TypeId} (ht : P.underlying t = some .bool) : Rd P t Kd.bool (fun _ => True) := by
  intro H enc w base spare held fuel cs x h
  obtain ⟨n, rfl, _⟩ := DataW.trod_bool ht h
  exact ⟨n, rfl, trivial⟩
theorem Rd.string {P : Program} {t : TypeId} (ht : P.underlying t = some .string) : Rd P t Kd.string (fun s => s.size ≤ maxLen) := by
  intro H enc w base spare held fuel cs x h
  obtain ⟨n, rfl, _, hw⟩ := DataW.trod_string ht h
  exact ⟨n, rfl, hw⟩
theorem Rd.map {P : Program} {t : TypeId} {α β : Type} {k : Kd α} {k' : Kd β} {ok : α → Prop} {ok' : β → Prop} (h : Rd P t k ok) (g : α → β) (hk : ∀ w y cs, k.K w y cs → k'.K w (g y) cs) (ho : ∀ y, ok y → ok' (g y)) : Rd P t k' ok' := by
  intro H enc w base spare held fuel cs x hx
  obtain ⟨y, h1, h2⟩ := h H enc w base spare held fuel cs x hx
  exact ⟨g y, hk _ _ _ h1, ho _ h2⟩
theorem Rd.slice {P : Program} {t e : TypeId} {α : Type} {k : Kd α} {ok : α → Prop} (e' : Nat) (ht : P.underlying t = some (.slice e)) (hk : Rd P e k ok) (hc : P.cellsOf e = k.sz) :
    Rd P t (Kd.slice e' k) (fun xs => xs.length ≤ maxLen ∧ ∀ x ∈ xs, ok x) := by
  intro H enc w base spare held fuel cs x h
  rcases open_slice ht h with ⟨rfl, _⟩ | ⟨a, len, cap, m, n, D, Pl, rfl, hb, hl, hm, hmm, _, hi⟩
  · exact ⟨[], ⟨none, 0, rfl, Nat.le_refl _, Kd.C_nil _ _⟩, by simp, by simp⟩
  · have hle : len ≤ m := by rw [hmm]; split <;> omega
    have hi' : ∀ i : Fin len, ∃ y : α, ∃ cs', w.cells? base (a.add (i.val * k.sz)) k.sz = some cs' ∧ k.K w y cs' ∧ ok y := by
      intro i
      obtain ⟨cs', h1, h2⟩ := hi i.val (by omega)
      rw [hc] at h1
      obtain ⟨y, h3, h4⟩ := hk _ _ _ _ _ _ _ _ _ h2
      exact ⟨y, cs', h1, h3, h4⟩
    refine ⟨List.ofFn fun i => Classical.choose (hi' i), ⟨some a, cap, by simp, by simp [hl], ?_⟩, by simp; omega, ?_⟩
    · refine ⟨by simp, by simp; have : maxLen ≤ 9223372036854775807 := by decide
                          omega, fun _ => ⟨a, rfl, fun j p hp => ?_⟩⟩
      have hj : j < len := by
        have := (List.getElem?_eq_some_iff.1 hp).1
        simpa using this
      obtain ⟨cs', h1, h2, h3⟩ := Classical.choose_spec (hi' ⟨j, hj⟩)
      have hpe : p = Classical.choose (hi' ⟨j, hj⟩) := by
        have := (List.getElem?_eq_some_iff.1 hp).2
        rw [← this]; simp
      obtain ⟨_, hcl, hat⟩ := World.cells?_some h1
      rw [hpe]
      refine ⟨cs', hcl, h2, fun i u hu => ?_⟩
      have hil : i < cs'.length := (List.getElem?_eq_some_iff.1 hu).1
      have := hat i (by omega)
      rw [← Go.Deep.add_add, this, hu]
    · intro x hx
      rw [List.mem_ofFn] at hx
      obtain ⟨i, rfl⟩ := hx
      obtain ⟨cs', h1, h2, h3⟩ := Classical.choose_spec (hi' i)
      exact h3
/-- Fields in line, from cell o on. -/
def RdF (P : Program) (o : Nat) (fs : List Field) {α : Type} (k : Kd α) (ok : α → Prop) : Prop :=
  ∀ (H : Type) (enc : TypeId × Value → H) (w : World) (base : Nat) (spare : Nat → Bool) (held : Bool) (n : Nat) (cs : List Value) (xs : List (DataW H × List MemPlace)),
    (∀ (i : Nat) (f : Field), fs[i]? = some f → DataW.trod enc P w base spare held n f.type ((cs.drop f.offset).take (P.cellsOf f.type)) = xs[i]?) → xs.length = fs.length → cs.length = o + k.sz →
      ∃ y, k.K w y (cs.drop o) ∧ ok y
theorem RdF.one {P : Program} {o : Nat} {f : Field} {α : Type} {k : Kd α} {ok : α → Prop} (h : Rd P f.type k ok) (ho : f.offset = o) (hc : P.cellsOf f.type = k.sz) : RdF P o [f] k ok := by
  intro H enc w base spare held n cs xs hf hl hcs
  match xs, hl with
  | [x], _ =>
    have := hf 0 f rfl
    rw [ho, hc, List.take_of_length_le (by simp; omega)] at this
    exact h _ _ _ _ _ _ _ _ _ this
theorem RdF.cons {P : Program} {o : Nat} {f : Field} {fs : List Field} {α β : Type} {k : Kd α} {k' : Kd β} {ok : α → Prop} {ok' : β → Prop} (h : Rd P f.type k ok) (ho : f.offset = o) (hc : P.cellsOf f.type = k.sz) (hr : RdF P (o + k.sz) fs k' ok') :
    RdF P o (f :: fs) (Kd.pair k k') (fun y => ok y.1 ∧ ok' y.2) := by
  intro H enc w base spare held n cs xs hf hl hcs
  match xs, hl with
  | x :: xs, hl =>
    have h0 := hf 0 f rfl
    rw [ho, hc] at h0
    obtain ⟨y, h1, h2⟩ := h _ _ _ _ _ _ _ _ _ h0
    obtain ⟨z, h3, h4⟩ := hr H enc w base spare held n cs xs (fun i f hi => hf (i + 1) f hi) (by simpa using hl) (by rw [hcs]; show o + (k.sz + k'.sz) = _; omega)
    exact ⟨(y, z), ⟨_, _, by rw [← List.drop_drop, List.take_append_drop], h1, h3⟩, h2, h4⟩
theorem Rd.struct {P : Program} {t : TypeId} {fs : Array Field} {α : Type} {k : Kd α} {ok : α → Prop} (ht : P.underlying t = some (.struct fs)) (hc : P.cellsOf t = k.sz) (hr : RdF P 0 fs.toList k ok) : Rd P t k ok := by
  intro H enc w base spare held fuel cs x h
  obtain ⟨xs, n, rfl, _, hcs, hl, hf⟩ := DataW.trod_struct ht h
  have := hr H enc w base spare held n cs xs (fun i f hi => hf i f (by simpa using hi)) (by simpa using hl) (by omega)
  simpa using this
/-- A struct handed over by value. -/
theorem agg_of {H : Type} {enc : TypeId × Value → H} {P : Program} {w : World} {base b0 : Nat} {spare : Nat → Bool} {held : Bool} {r : Reach} {t : TypeId} {fs : Array Field} {v : Value} {d : DataW H} {p : List MemPlace} {α : Type} {k : Kd α} {ok : α → Prop}
    (hk : Rd P t k ok) (ht : P.underlying t = some (.struct fs)) (hv : Value.okWide P w r b0 t v) (h : DataW.Trod enc P w base spare held t v d p) : ∃ y cs, v = .agg cs ∧ k.K w y cs.toList ∧ ok y := by
  obtain ⟨cs, rfl, _⟩ := okWide_struct ht hv
  obtain ⟨fuel, hf⟩ := h
  obtain ⟨y, h1, h2⟩ := hk _ _ _ _ _ _ _ _ _ hf
  exact ⟨y, cs, rfl, by simpa [Value.cells] using h1, h2⟩
/-- A slice handed over. -/
theorem slice_of {H : Type} {enc : TypeId × Value → H} {P : Program} {w : World} {base : Nat} {spare : Nat → Bool} {held : Bool} {t : TypeId} {v : Value} {d : DataW H} {p : List MemPlace} {e : Nat} {α : Type} {k : Kd α} {ok : List α → Prop}
    (hk : Rd P t (Kd.slice e k) ok) (hv : ∃ a l c, v = .slice a l c) (h : DataW.Trod enc P w base spare held t v d p) : ∃ (y : List α) (A : Option Addr) (c : Nat), v = .slice A y.length c ∧ y.length ≤ c ∧ k.C w A y.length y ∧ ok y := by
  obtain ⟨a, l, c, rfl⟩ := hv
  obtain ⟨fuel, hf⟩ := h
  obtain ⟨y, ⟨A, c', h1, h2, h3⟩, h4⟩ := hk _ _ _ _ _ _ _ _ _ hf
  have : (Value.slice a l c) = .slice A y.length c' := by simpa [Value.cells] using h1
  exact ⟨y, A, c', this, h2, h3, h4⟩
end Go.Proofs.Ytdmhdbebjjhopaa.A
