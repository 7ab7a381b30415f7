/- By hand: the map of a side (what is known of an effect); whether an effect is excluded. -/
import Derived.Test.YtdclcdaoidbgbaaPA3
import Derived.Maps.OwnSet
import Derived.Maps.OwnOps
import Derived.Maps.Own
namespace Go.Proofs.Ytdclcdaoidbgbaa.PA
open Go Go.RowKit Go.Maps Go.Proofs.YtdclcdaoidbgbaaW.PrintWords Go.Proofs.YtdclcdaoidbgbaaW.PrintLast Go.Proofs.YtdclcdaoidbgbaaW.PrintMore
set_option linter.unusedVariables false

theorem law3 : Keyed Try.prog 3 := int_keyed Try.underlying3
theorem zero3 (w : World) : (zeroValue 3).run Try.prog w = .ok (.int .i64 0) w := by kernel_rfl

/-- The number of scores after which an effect is excluded. -/
def known.f (k : Nat) (l : List S50) (thr : Int) (up : Bool) (e : Int) : Option Int :=
  (wealth_Path.f k l e up).bind fun p => (wealth_First.f k p thr).bind fun n => some (if n = 0 then 9223372036854775807 else n)
theorem known.mono (l : List S50) (thr : Int) (up : Bool) (e : Int) (k : Nat) : LeO (known.f k l thr up e) (known.f (k + 1) l thr up e) :=
  LeO.bind (wealth_Path.mono _ _ _ _) (fun _ => LeO.bind (wealth_First.mono _ _ _) (fun _ => LeO.refl _))
theorem known.up {l : List S50} {thr : Int} {up : Bool} {e x : Int} {k : Nat} (h : known.f k l thr up e = some x) : ∀ m, known.f (k + m) l thr up e = some x
  | 0 => h
  | m + 1 => known.mono _ _ _ _ _ _ (known.up h m)
theorem known.one {l : List S50} {thr : Int} {up : Bool} {e x y : Int} {k m : Nat} (h : known.f k l thr up e = some x) (h' : known.f m l thr up e = some y) : x = y := by
  have a := known.up h m
  have b := known.up h' k
  rw [Nat.add_comm] at b
  exact Option.some.inj (a.symm.trans b)

/-- The map of a side at block b, made after w0: what it knows is so. -/
structure Memo (w0 : World) (l : List S50) (thr : Int) (up : Bool) (b n : Nat) (W : World) : Prop where
  new : w0.heap.size ≤ b
  below : Below w0.heap.size w0 W
  map : ∃ D : DataW Unit, W.ownsMap Try.prog 3 (plainElem Try.prog 3) b n D ∧ ∀ e c, (Lit.int .i64 e).wf = true → Maps.has D (.int .i64 e) = true → D.atKey (.int .i64 e) (.lit (.int .i64 0)) = .lit (.int .i64 c) → ∃ k, known.f k l thr up e = some c

theorem first_wf {thr : Int} {p : List Int} {m : Int} : ∀ (k : Nat) (n i : Int), wealth_First.l0 k thr p n i = some m → (Lit.int .i64 m).wf = true
  | 0, n, i, h => by simp [wealth_First.l0] at h
  | k + 1, n, i, h => by
    unfold wealth_First.l0 at h
    split at h
    · split at h
      · split at h
        · split at h
          · obtain rfl := Option.some.inj h
            exact wrap64_wf _
          · exact first_wf k _ _ h
        · cases h
      · cases h
    · obtain rfl := Option.some.inj h
      decide
theorem below_less {B B' : Nat} {w w' : World} (h : Below B w w') (hb : B' ≤ B) : Below B' w w' := ⟨h.os, h.tape, h.output, h.size, fun k hk => h.block k (by omega)⟩
theorem Memo.put {w0 W5 : World} {l : List S50} {thr : Int} {up : Bool} {b n k : Nat} {e x : Int} {D : DataW Unit} (hnew : w0.heap.size ≤ b) (hb : Below w0.heap.size w0 W5) (hm : IsMap D)
    (hs : ∀ e c, (Lit.int .i64 e).wf = true → Maps.has D (.int .i64 e) = true → D.atKey (.int .i64 e) (.lit (.int .i64 0)) = .lit (.int .i64 c) → ∃ k, known.f k l thr up e = some c)
    (hown : W5.ownsMap Try.prog 3 (plainElem Try.prog 3) b (n + 1) (D.put (.int .i64 e) (.lit (.int .i64 x)))) (hx : known.f k l thr up e = some x) : Memo w0 l thr up b (n + 1) W5 := by
  refine ⟨hnew, hb, _, hown, fun e' c' he' hh' hat' => ?_⟩
  by_cases hee : e' = e
  · subst hee
    rw [atKey_put_same hm (by first | exact trivial | simp [WideAt.IsKeyLit])] at hat'
    injection hat' with h1
    injection h1 with h2 h3
    subst h3
    exact ⟨k, hx⟩
  · have hne : Lit.int .i64 e' ≠ Lit.int .i64 e := fun h => by injection h with h1 h2; exact hee h2
    rw [has_put_other hne] at hh'
    rw [atKey_put_other hne] at hat'
    exact hs e' c' he' hh' hat'
/-- All blocks but b stand as they were. -/
def Far (b : Nat) (W W' : World) : Prop := W.heap.size ≤ W'.heap.size ∧ ∀ j, j < W.heap.size → j ≠ b → W'.heap[j]? = W.heap[j]?
theorem Far.refl (b : Nat) (W : World) : Far b W W := ⟨Nat.le_refl _, fun _ _ _ => rfl⟩
theorem Far.trans {b : Nat} {W W' W'' : World} (h : Far b W W') (h' : Far b W' W'') : Far b W W'' := ⟨Nat.le_trans h.1 h'.1, fun j hj hb => (h'.2 j (Nat.lt_of_lt_of_le hj h.1) hb).trans (h.2 j hj hb)⟩
theorem Far.cell {b : Nat} {W W' : World} (h : Far b W W') {a : Addr} {v : Value} (hb : a.block ≠ b) (hc : W.cell? a = some v) : W'.cell? a = some v := by
  have hlt := World.block_lt_of_cell? _ _ hc
  have e : W'.cell? a = W.cell? a := World.cell?_of_block (w := W) (h.2 a.block hlt hb)
  exact e.trans hc
theorem Far.alloc (b : Nat) (W : World) (o : Obj) : Far b W (W.alloc o) := ⟨by simp, fun j hj _ => Below.heap_alloc _ _ _ hj⟩
theorem Far.below {b : Nat} {W W' : World} (h : Below W.heap.size W W') : Far b W W' := ⟨h.size, fun j hj _ => h.block j hj⟩
theorem Far.heap {b : Nat} {W W' W'' : World} (h : Far b W W') (e : W''.heap = W'.heap) : Far b W W'' := ⟨by rw [e]; exact h.1, fun j hj hb => by rw [e]; exact h.2 j hj hb⟩
theorem Far.grown {b : Nat} {W W' : World} (h : W.grownBy W' (some b)) : Far b W W' := ⟨h.size, fun j hj hb => h.block j hj (by simpa using hb)⟩
/-- A box's cell, behind a call that left it as it was. -/
theorem box_cell {W W1 w2 : World} {C : Array Value} {t : TypeId} (hb : Below W1.heap.size W1 w2) (h1 : W1.heap = (W.alloc (.cells C t)).heap) (i : Nat) {v : Value} (hv : C[i]? = some v) : w2.cell? ⟨W.heap.size, i, none⟩ = some v := by
  have e : W1.cell? ⟨W.heap.size, i, none⟩ = (W.alloc (.cells C t)).cell? ⟨W.heap.size, i, none⟩ := by unfold World.cell?; rw [h1]
  refine (hb.cell (by rw [h1]; simp)).trans (e.trans ?_)
  rw [World.cell?_alloc_at _ _ _ _ rfl]
  exact hv
theorem own_below {w w' : World} {b n : Nat} {D : DataW Unit} (h : w.ownsMap Try.prog 3 (plainElem Try.prog 3) b n D) (hb : Below w.heap.size w w') : w'.ownsMap Try.prog 3 (plainElem Try.prog 3) b n D := by
  have hlt := h.lt
  obtain ⟨es, clock, h1, F, hs, hD⟩ := h
  exact ⟨es, clock, (hb.block b hlt).trans h1, F, hs, hD⟩
theorem own_heap {w w' : World} {b n : Nat} {D : DataW Unit} (h : w.ownsMap Try.prog 3 (plainElem Try.prog 3) b n D) (hb : w'.heap = w.heap) : w'.ownsMap Try.prog 3 (plainElem Try.prog 3) b n D := by
  obtain ⟨es, clock, h1, F, hs, hD⟩ := h
  exact ⟨es, clock, by rw [hb]; exact h1, F, hs, hD⟩

set_option maxHeartbeats 2000000 in
set_option maxRecDepth 100000 in
theorem excluded_calls {w0 W : World} {A : Option Addr} {c : Nat} {l : List S50} {thr : Int} {up : Bool} {b n k : Nat} {e kk x : Int} (hl : l.length ≤ c) (hr : Kd.C k50 w0 A l.length l) (he : (Lit.int .i64 e).wf = true)
    (hM : Memo w0 l thr up b n W) (hn : n < maxLen) (hx : known.f k l thr up e = some x) :
    Calls Try.prog 36 #[.agg #[.slice A l.length c, .int .i64 thr, .bool up, .map (some b)], .int .i64 e, .int .i64 kk] W fun r W' => r = .returned (.bool (decide (x ≤ kk))) ∧ Memo w0 l thr up b (n + 1) W' ∧ Far b W W' := by
  obtain ⟨hnew, hb, D, hown, hs⟩ := hM
  have hkey : keyOf Try.prog 3 (.int .i64 e) = some (.int .i64 e) := keyOf_int_mk Try.underlying3 he
  have hu60 := Try.underlying60
  by_cases hh : Maps.has D (.int .i64 e) = true
  · have HS : Aside0 _ := Aside0.mk hs
    have HX := Aside0.mk hx
    clear hs hx
    go_enter Try.func36, Try.ntmps36
    go_wp2_with (first
      | (at_lookup; refine wpList_lookup_own_ok_int _ rfl _ _ 58 rfl 3 3 .i64 law3 Try.underlying58 Try.underlying3 (zero3 _) b n D rfl (hown.alloc _) _ _ rfl hkey ?_; intro c1 hat hwc; rw [hh])
      | go_in)
    go_ret
    obtain ⟨k2, h2⟩ := HS.out e c1 he hh hat
    obtain rfl := known.one h2 HX.out
    exact ⟨rfl, ⟨hnew, hb.alloc hb.size _, D, (hown.alloc _).mono (Nat.le_succ _), HS.out⟩, Far.alloc _ _ _⟩
  · have hh0 : Maps.has D (.int .i64 e) = false := by simpa using hh
    obtain ⟨p, h1, h2⟩ := Option.bind_eq_some_iff.mp hx
    obtain ⟨m, h3, h4⟩ := Option.bind_eq_some_iff.mp h2
    have hx' : x = if m = 0 then 9223372036854775807 else m := (Option.some.inj h4).symm
    have HS : Aside0 _ := Aside0.mk hs
    have HX := Aside0.mk hx
    have HP := Aside0.mk h1
    have HF := Aside0.mk h3
    have HR := Aside0.mk (Kd.C_below hr hb)
    have HL := Aside0.mk hl
    clear hs hx h1 h2 h3 h4 hr hl
    have hmw : (Lit.int .i64 m).wf = true := first_wf _ _ _ HF.out
    have hmap := hown.isMap
    by_cases c0 : m = 0
    · subst c0
      rw [if_pos rfl] at hx'
      go_enter Try.func36, Try.ntmps36
      go_wp2_with (first
        | (at_lookup; refine wpList_lookup_own_ok_int _ rfl _ _ 58 rfl 3 3 .i64 law3 Try.underlying58 Try.underlying3 (zero3 _) b n D rfl (hown.alloc _) _ _ rfl hkey ?_; intro c1 hat hwc; rw [hh0])
        | go_in)
      go_region_held3 (fun w' => w'.cell? ⟨W.heap.size, 0, none⟩ = some (.slice A l.length c) ∧ w'.cell? ⟨W.heap.size, 1, none⟩ = some (.int .i64 thr) ∧ w'.cell? ⟨W.heap.size, 2, none⟩ = some (.bool up) ∧ w'.cell? ⟨W.heap.size, 3, none⟩ = some (.map (some b))) (go_keep)
        (first
          | (go_at_call 42; refine (wealth_Path.calls k A c l e up p _ ?s1 HL.out HP.out).mono ?_; (case s1 => repeat (first | exact HR.out | (with_reducible refine Kd.C_alloc ?_ _) | (with_reducible refine Kd.C_drewN ?_ _) | (with_reducible refine Kd.C_drew ?_))); rintro r1 w2 ⟨v, rfl, hR, hb2⟩; obtain ⟨Ap, cp, rfl, hlp, hCp⟩ := Kd.R_reads hR
             have k0 : w2.cell? ⟨W.heap.size, 0, none⟩ = some (.slice A l.length c) := box_cell hb2 rfl 0 rfl
             have k1 : w2.cell? ⟨W.heap.size, 1, none⟩ = some (.int .i64 thr) := box_cell hb2 rfl 1 rfl
             have k2 : w2.cell? ⟨W.heap.size, 2, none⟩ = some (.bool up) := box_cell hb2 rfl 2 rfl
             have k3 : w2.cell? ⟨W.heap.size, 3, none⟩ = some (.map (some b)) := box_cell hb2 rfl 3 rfl)
          | (go_at_call 41; refine (wealth_First.calls k Ap cp p thr 0 _ ?s1 hlp HF.out).mono ?_; (case s1 => repeat (first | exact hCp | (with_reducible refine Kd.C_alloc ?_ _) | (with_reducible refine Kd.C_drewN ?_ _) | (with_reducible refine Kd.C_drew ?_))); rintro r1 w3 ⟨rfl, ⟨nd, rfl⟩⟩))
      have o1 : (W.alloc (.cells #[.slice A l.length c, .int .i64 thr, .bool up, .map (some b)] 60)).drew.ownsMap Try.prog 3 (plainElem Try.prog 3) b n D := own_heap (hown.alloc _) rfl
      have o2 := own_below o1 hb2
      go_wp2_with (first
        | (at_mapUpdate; refine wpList_mapUpdate_own _ rfl _ _ _ 58 rfl 3 3 law3 Try.underlying58 (plainElem Try.prog 3) b n D rfl ?own hn _ _ _ rfl rfl hkey _ [] (plainElem_int Try.underlying3 (by decide : (Lit.int .i64 9223372036854775807).wf = true)) ?_; (case own => exact own_heap o2 rfl); intro w5 hown5 hgrow5)
        | go_in)
      go_ret
      have f1 : Far b W (W.alloc (.cells #[.slice A l.length c, .int .i64 thr, .bool up, .map (some b)] 60)).drew := (Far.alloc b W _).heap rfl
      have f3 : Far b w2 (w2.drewN nd) := (Far.refl b w2).heap (by simp)
      have b1 := (hb.alloc hb.size (.cells #[.slice A l.length c, .int .i64 thr, .bool up, .map (some b)] 60)).drew
      have b3 := pw_below_drewN (b1.trans (below_less hb2 b1.size)) nd
      exact ⟨by rw [hx']; rfl, Memo.put hnew (b3.grown hgrow5 b3.size (fun k hk => by cases hk; exact hnew)) hmap HS.out (by rw [hx']; exact hown5) HX.out, ((f1.trans (Far.below hb2)).trans f3).trans (Far.grown hgrow5)⟩
    · rw [if_neg c0] at hx'
      go_enter Try.func36, Try.ntmps36
      go_wp2_with (first
        | (at_lookup; refine wpList_lookup_own_ok_int _ rfl _ _ 58 rfl 3 3 .i64 law3 Try.underlying58 Try.underlying3 (zero3 _) b n D rfl (hown.alloc _) _ _ rfl hkey ?_; intro c1 hat hwc; rw [hh0])
        | go_in)
      go_region_held3 (fun w' => w'.cell? ⟨W.heap.size, 0, none⟩ = some (.slice A l.length c) ∧ w'.cell? ⟨W.heap.size, 1, none⟩ = some (.int .i64 thr) ∧ w'.cell? ⟨W.heap.size, 2, none⟩ = some (.bool up) ∧ w'.cell? ⟨W.heap.size, 3, none⟩ = some (.map (some b))) (go_keep)
        (first
          | (go_at_call 42; refine (wealth_Path.calls k A c l e up p _ ?s1 HL.out HP.out).mono ?_; (case s1 => repeat (first | exact HR.out | (with_reducible refine Kd.C_alloc ?_ _) | (with_reducible refine Kd.C_drewN ?_ _) | (with_reducible refine Kd.C_drew ?_))); rintro r1 w2 ⟨v, rfl, hR, hb2⟩; obtain ⟨Ap, cp, rfl, hlp, hCp⟩ := Kd.R_reads hR
             have k0 : w2.cell? ⟨W.heap.size, 0, none⟩ = some (.slice A l.length c) := box_cell hb2 rfl 0 rfl
             have k1 : w2.cell? ⟨W.heap.size, 1, none⟩ = some (.int .i64 thr) := box_cell hb2 rfl 1 rfl
             have k2 : w2.cell? ⟨W.heap.size, 2, none⟩ = some (.bool up) := box_cell hb2 rfl 2 rfl
             have k3 : w2.cell? ⟨W.heap.size, 3, none⟩ = some (.map (some b)) := box_cell hb2 rfl 3 rfl)
          | (go_at_call 41; refine (wealth_First.calls k Ap cp p thr m _ ?s1 hlp HF.out).mono ?_; (case s1 => repeat (first | exact hCp | (with_reducible refine Kd.C_alloc ?_ _) | (with_reducible refine Kd.C_drewN ?_ _) | (with_reducible refine Kd.C_drew ?_))); rintro r1 w3 ⟨rfl, ⟨nd, rfl⟩⟩))
      have o1 : (W.alloc (.cells #[.slice A l.length c, .int .i64 thr, .bool up, .map (some b)] 60)).drew.ownsMap Try.prog 3 (plainElem Try.prog 3) b n D := own_heap (hown.alloc _) rfl
      have o2 := own_below o1 hb2
      go_wp2_with (first
        | (at_mapUpdate; refine wpList_mapUpdate_own _ rfl _ _ _ 58 rfl 3 3 law3 Try.underlying58 (plainElem Try.prog 3) b n D rfl ?own hn _ _ _ rfl rfl hkey _ [] (plainElem_int Try.underlying3 hmw) ?_; (case own => exact own_heap o2 rfl); intro w5 hown5 hgrow5)
        | go_in)
      go_ret
      have f1 : Far b W (W.alloc (.cells #[.slice A l.length c, .int .i64 thr, .bool up, .map (some b)] 60)).drew := (Far.alloc b W _).heap rfl
      have f3 : Far b w2 (w2.drewN nd) := (Far.refl b w2).heap (by simp)
      have b1 := (hb.alloc hb.size (.cells #[.slice A l.length c, .int .i64 thr, .bool up, .map (some b)] 60)).drew
      have b3 := pw_below_drewN (b1.trans (below_less hb2 b1.size)) nd
      exact ⟨by rw [hx']; rfl, Memo.put hnew (b3.grown hgrow5 b3.size (fun k hk => by cases hk; exact hnew)) hmap HS.out (by rw [hx']; exact hown5) HX.out, ((f1.trans (Far.below hb2)).trans f3).trans (Far.grown hgrow5)⟩

set_option maxHeartbeats 2000000 in
set_option maxRecDepth 100000 in
theorem closure_calls {w0 W : World} {A : Option Addr} {c : Nat} {l : List S50} {thr : Int} {up : Bool} {b n k bs bg bk : Nat} {sg kk i x : Int} (hl : l.length ≤ c) (hr : Kd.C k50 w0 A l.length l) (hM : Memo w0 l thr up b n W) (hn : n < maxLen)
    (h0 : W.cell? ⟨bs, 0, none⟩ = some (.slice A l.length c)) (h1 : W.cell? ⟨bs, 1, none⟩ = some (.int .i64 thr)) (h2 : W.cell? ⟨bs, 2, none⟩ = some (.bool up)) (h3 : W.cell? ⟨bs, 3, none⟩ = some (.map (some b)))
    (h4 : W.cell? ⟨bg, 0, none⟩ = some (.int .i64 sg)) (h5 : W.cell? ⟨bk, 0, none⟩ = some (.int .i64 kk)) (hx : known.f k l thr up (wrap64 (sg * wrap64 (i - 1000))) = some x) :
    Calls Try.prog 35 #[.int .i64 i, .pointer (some ⟨bs, 0, none⟩), .pointer (some ⟨bg, 0, none⟩), .pointer (some ⟨bk, 0, none⟩)] W fun r W' => r = .returned (.bool (!decide (x ≤ kk))) ∧ Memo w0 l thr up b (n + 1) W' ∧ Far b W W' := by
  have hu60 := Try.underlying60
  have HX := Aside0.mk hx
  have HM := Aside0.mk hM
  have HR := Aside0.mk hr
  have HL := Aside0.mk hl
  clear hx hM hr hl
  go_enter Try.func35, Try.ntmps35
  go_wp2_with (first
    | (go_at_call 36; refine (excluded_calls HL.out HR.out (wrap64_wf _) HM.out hn HX.out).mono ?_; rintro e1 w1 ⟨rfl, hM1, hF1⟩)
    | go_in)
  go_ret
  exact ⟨rfl, hM1, hF1⟩

end Go.Proofs.Ytdclcdaoidbgbaa.PA
