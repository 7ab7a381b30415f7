/- By hand: the statement that makes a score, in every order of its parts: no condition on the order. -/
import Derived.Test.YtdmhdbebjjhopaaU1
import Derived.Test.YtdmhdbebjjhopaaA7
import Derived.Test.YtdmhdbebjjhopaaA8
import Derived.Test.YtdmhdbebjjhopaaCB
import Derived.RegionTactic
import Derived.Deep.RegionHeld3
import Derived.Deep.DeepCutAuto
namespace Go.Proofs.Ytdmhdbebjjhopaa.PA
open Go Go.RowKit Go.Proofs.YtdmhdbebjjhopaaW.PrintWords Go.Proofs.YtdmhdbebjjhopaaW.PrintLast Go.Proofs.YtdmhdbebjjhopaaW.PrintMore Go.Proofs.Ytdmhdbebjjhopaa.M
set_option linter.unusedVariables false
set_option linter.unusedSimpArgs false

theorem km34b (w w1 : World) (base : Nat) (ok : Nat → Prop) (x : S34) (cs : List Value) (h : k34.K w x cs) : k34.M w1 base ok x cs := by
  obtain rfl := k34_open h
  exact k34_mkM _ _ _ _
set_option maxHeartbeats 40000000 in
set_option maxRecDepth 100000 in
theorem region12_first {J K' : Act → World → Prop} {Q' : Exit → Act → World → Prop} {A0 : Option Addr} {c0 : Nat} {l0 : List Int} {a1 a2 a3 a4 : Int} {a5 : Bool} {As : Option Addr} {cs : Nat} {S : List S34} {C T y1 y2 b2 m u r : Int} {gx gy gw g1 q2 : Nat} {W1 : World} {u24 u25 u26 u27 u28 u29 u30 u31 u32 u33 u34 u35 u36 u37 u38 u39 u40 u41 u42 u43 u44 u45 u46 u47 u48 u49 u50 u51 u52 u53 u54 u55 u56 u57 u58 u59 u60 u61 u62 u63 u64 u65 u66 u67 u68 u69 u70 u71 u72 u73 u74 u75 u76 u77 u78 u79 u80 u81 u82 u83 u84 u85 u86 u87 u88 u89 u90 u91 u92 u93 u94 u95 u96 u97 u98 u99 u100 u101 u102 u103 u104 u105 u106 u107 u108 u109 u110 u111 u112 u113 u114 u115 u116 u117 u118 u119 u120 u121 u122 u123 u124 u125 u126 u127 u128 u129 u130 u131 u132 u133 u134 u135 u136 u137 u138 u139 u140 u141 u142 u143 : Value}
    (NS : Aside0 (S.length ≤ 40)) (Hcs : Aside0 (S.length ≤ cs)) (HS4 : Aside0 (k34.C W1 As S.length S)) (BW4 : Aside0 (W1.heap[gw]? = some (Obj.cells #[.int .i64 0, .int .i64 C, .int .i64 T] 42 (0, 0)))) (BY4 : Aside0 (W1.heap[gy]? = some (Obj.cells #[.string ⟨#[]⟩, .string ⟨#[]⟩, .int .i64 0, .int .i64 0, .int .i64 2, .int .i64 0, .int .i64 y2, .int .i64 0, .int .i64 b2, .bool false] 34 (0, 0))))
    (O2 : Aside0 (score_Of.f q2 (S ++ [⟨⟨⟨#[]⟩, ⟨#[]⟩, 0, 0, 2, 0⟩, y2, 0, b2, false⟩]) (S.length : Int) 0 C T 255 a5 = some (m, u, r, true)))
    (hJ :
      ∀ (a' : Act) (w' : World),
        (∃ u22 u23 u24 u25 u26 u27 u28 u29 u30 u31 u32 u33 u34 u35 u36 u37 u38 u39 u40 u41 u42 u43 u44 u45 u46 u47 u48 u49
            u50 u51 u52 u53 u54 u55 u56 u57 u58 u59 u60 u61 u62 u63 u64 u65 u66 u67 u68 u69 u70 u71 u72 u73 u74 u75 u76 u77
            u78 u79 u80 u81 u82 u83 u84 u85 u86 u87 u88 u89 u90 u91 u92 u93 u94 u95 u96 u97 u98 u99 u100 u101 u102 u103 u104
            u105 u106 u107 u108 u109 u110 u111 u112 u113 u114 u115 u116 u117 u118 u119 u120 u121 u122 u123 u124 u125 u126
            u127 u128 u129 u130 u131 u132 u133 u134 u135 u136 u137 u138 u139 u140 u141 u142 u143,
            (∃ g,
                u22 = Value.pointer (some { block := g, off := 0 }) ∧
                  u23 = Value.bool true ∧
                    Aside0
                        (w'.heap[g]? =
                          some
                            (Obj.cells #[Value.int IntKind.i64 m, Value.int IntKind.i64 u, Value.int IntKind.i64 r] 37)) ∧
                      Aside0 (Below W1.heap.size W1 w')) ∧
              a' =
                {
                  tmps :=
                    #[Value.slice A0 l0.length c0, Value.int IntKind.u8 a1, Value.int IntKind.u8 a2,
                      Value.int IntKind.u16 a3, Value.int IntKind.u16 a4, Value.bool a5, undef, undef, undef, undef, undef,
                      undef, Value.bool false, Value.slice As S.length cs, Value.int IntKind.i64 C, Value.int IntKind.i64 T,
                      Value.int IntKind.i64 ↑S.length, Value.pointer (some { block := gx, off := 0 }),
                      Value.pointer (some { block := gy, off := 0 }), Value.pointer (some { block := gw, off := 0 }),
                      Value.pointer (some { block := g1, off := 0 }), Value.bool true, u22, u23, u24, u25, u26, u27, u28,
                      u29, u30, u31, u32, u33, u34, u35, u36, u37, u38, u39, u40, u41, u42, u43, u44, u45, u46, u47, u48,
                      u49, u50, u51, u52, u53, u54, u55, u56, u57, u58, u59, u60, u61, u62, u63, u64, u65, u66, u67, u68,
                      u69, u70, u71, u72, u73, u74, u75, u76, u77, u78, u79, u80, u81, u82, u83, u84, u85, u86, u87, u88,
                      u89, u90, u91, u92, u93, u94, u95, u96, u97, u98, u99, u100, u101, u102, u103, u104, u105, u106, u107,
                      u108, u109, u110, u111, u112, u113, u114, u115, u116, u117, u118, u119, u120, u121, u122, u123, u124,
                      u125, u126, u127, u128, u129, u130, u131, u132, u133, u134, u135, u136, u137, u138, u139, u140, u141,
                      u142, u143],
                  defers := [] }) →
          J a' w')
    (hK : ∀ (a' : Act) (w' : World), Met J a' w' → K' a' w') :
    Code.wp Try.prog
        (Code.region 12
          #[{ dst := some 72, op := Op.buildSlice 25 0 #[], type := 25, pos := "law.go:152", after := #[], guard := none },
            { dst := some 73, op := Op.move (Operand.tmp 13), type := 25, pos := "law.go:152", after := #[],
              guard := none },
            { dst := some 74,
              op :=
                Op.call
                  { callee := Callee.builtin Builtin.append, args := #[Operand.tmp 72, Operand.tmp 73],
                    argTypes := #[25, 25] },
              type := 25, pos := "law.go:152",
              after := #[{ on := 0, ground := Ground.data }, { on := 1, ground := Ground.data }], guard := none },
            { dst := some 75, op := Op.load 34 (Operand.tmp 18), type := 34, pos := "law.go:152", after := #[],
              guard := none },
            { dst := some 76, op := Op.buildSlice 25 1 #[(0, Operand.tmp 75)], type := 25, pos := "law.go:152",
              after := #[{ on := 3, ground := Ground.data }], guard := none },
            { dst := some 77,
              op :=
                Op.call
                  { callee := Callee.builtin Builtin.append, args := #[Operand.tmp 74, Operand.tmp 76],
                    argTypes := #[25, 25] },
              type := 25, pos := "law.go:152",
              after :=
                #[{ on := 2, ground := Ground.data }, { on := 4, ground := Ground.data },
                  { on := 2, ground := Ground.chain }],
              guard := none },
            { dst := some 78, op := Op.move (Operand.tmp 16), type := 3, pos := "law.go:152", after := #[], guard := none },
            { dst := some 79, op := Op.load 42 (Operand.tmp 19), type := 42, pos := "law.go:152", after := #[],
              guard := none },
            { dst := some 80, op := Op.move (Operand.tmp 5), type := 4, pos := "law.go:152", after := #[], guard := none },
            { dst := some 81,
              op :=
                Op.call
                  { callee := Callee.value (Operand.func 19),
                    args :=
                      #[Operand.tmp 77, Operand.tmp 78, Operand.tmp 79, Operand.const (Value.int IntKind.i64 255),
                        Operand.tmp 80],
                    argTypes := #[25, 3, 42, 3, 4] },
              type := 45, pos := "law.go:152",
              after :=
                #[{ on := 5, ground := Ground.data }, { on := 6, ground := Ground.data },
                  { on := 7, ground := Ground.data }, { on := 8, ground := Ground.data },
                  { on := 5, ground := Ground.chain }],
              guard := none },
            { dst := some 71, op := Op.move (Operand.tmp 81), type := 45, pos := "law.go:152",
              after := #[{ on := 9, ground := Ground.data }], guard := none },
            { dst := some 82, op := Op.extract (Operand.tmp 71) 0, type := 37, pos := "law.go:152",
              after := #[{ on := 10, ground := Ground.data }], guard := none },
            { dst := some 83, op := Op.extract (Operand.tmp 71) 1, type := 4, pos := "law.go:152",
              after := #[{ on := 10, ground := Ground.data }, { on := 14, ground := Ground.gcOnly Departure.lateStores }],
              guard := none },
            { dst := some 22, op := Op.alloc 37, type := 0, pos := "law.go:152", after := #[], guard := none },
            { dst := none, op := Op.store 37 (Operand.tmp 22) (Operand.tmp 82), type := 0, pos := "law.go:152",
              after :=
                #[{ on := 13, ground := Ground.data }, { on := 11, ground := Ground.data },
                  { on := 9, ground := Ground.chain }, { on := 0, ground := Ground.phase },
                  { on := 1, ground := Ground.phase }, { on := 2, ground := Ground.phase },
                  { on := 3, ground := Ground.phase }, { on := 4, ground := Ground.phase },
                  { on := 5, ground := Ground.phase }, { on := 6, ground := Ground.phase },
                  { on := 7, ground := Ground.phase }, { on := 8, ground := Ground.phase },
                  { on := 9, ground := Ground.phase }, { on := 10, ground := Ground.phase },
                  { on := 11, ground := Ground.phase }, { on := 12, ground := Ground.textOnly Departure.lateStores },
                  { on := 13, ground := Ground.phase }],
              guard := none },
            { dst := some 23, op := Op.assign (Operand.tmp 83), type := 4, pos := "law.go:152",
              after :=
                #[{ on := 12, ground := Ground.data }, { on := 14, ground := Ground.chain },
                  { on := 0, ground := Ground.phase }, { on := 1, ground := Ground.phase },
                  { on := 2, ground := Ground.phase }, { on := 3, ground := Ground.phase },
                  { on := 4, ground := Ground.phase }, { on := 5, ground := Ground.phase },
                  { on := 6, ground := Ground.phase }, { on := 7, ground := Ground.phase },
                  { on := 8, ground := Ground.phase }, { on := 9, ground := Ground.phase },
                  { on := 10, ground := Ground.phase }, { on := 11, ground := Ground.phase },
                  { on := 12, ground := Ground.phase }, { on := 13, ground := Ground.phase },
                  { on := 14, ground := Ground.phase }],
              guard := none }]
          true)
        (Exit.then K' Q')
        {
          tmps :=
            #[Value.slice A0 l0.length c0, Value.int IntKind.u8 a1, Value.int IntKind.u8 a2, Value.int IntKind.u16 a3,
              Value.int IntKind.u16 a4, Value.bool a5, undef, undef, undef, undef, undef, undef, Value.bool false,
              Value.slice As S.length cs, Value.int IntKind.i64 C, Value.int IntKind.i64 T, Value.int IntKind.i64 ↑S.length,
              Value.pointer (some { block := gx, off := 0 }), Value.pointer (some { block := gy, off := 0 }),
              Value.pointer (some { block := gw, off := 0 }), Value.pointer (some { block := g1, off := 0 }),
              Value.bool true, undef, undef, u24, u25, u26, u27, u28, u29, u30, u31, u32, u33, u34, u35, u36, u37, u38, u39,
              u40, u41, u42, u43, u44, u45, u46, u47, u48, u49, u50, u51, u52, u53, u54, u55, u56, u57, u58, u59, u60, u61,
              u62, u63, u64, u65, u66, u67, u68, u69, u70, u71, u72, u73, u74, u75, u76, u77, u78, u79, u80, u81, u82, u83,
              u84, u85, u86, u87, u88, u89, u90, u91, u92, u93, u94, u95, u96, u97, u98, u99, u100, u101, u102, u103, u104,
              u105, u106, u107, u108, u109, u110, u111, u112, u113, u114, u115, u116, u117, u118, u119, u120, u121, u122,
              u123, u124, u125, u126, u127, u128, u129, u130, u131, u132, u133, u134, u135, u136, u137, u138, u139, u140,
              u141, u142, u143],
          defers := [] }
        W1 := by
  have hu34 := Try.underlying34
  have hu32 := Try.underlying32
  have hu42 := Try.underlying42
  have hu37 := Try.underlying37
  have cx0 : W1.cell? ⟨gy, 0, none⟩ = some (.string ⟨#[]⟩) := (blk_cell BY4.out 0).trans rfl
  have cx1 : W1.cell? ⟨gy, 1, none⟩ = some (.string ⟨#[]⟩) := (blk_cell BY4.out 1).trans rfl
  have cx2 : W1.cell? ⟨gy, 2, none⟩ = some (.int .i64 0) := (blk_cell BY4.out 2).trans rfl
  have cx3 : W1.cell? ⟨gy, 3, none⟩ = some (.int .i64 0) := (blk_cell BY4.out 3).trans rfl
  have cx4 : W1.cell? ⟨gy, 4, none⟩ = some (.int .i64 2) := (blk_cell BY4.out 4).trans rfl
  have cx5 : W1.cell? ⟨gy, 5, none⟩ = some (.int .i64 0) := (blk_cell BY4.out 5).trans rfl
  have cx6 : W1.cell? ⟨gy, 6, none⟩ = some (.int .i64 y2) := (blk_cell BY4.out 6).trans rfl
  have cx7 : W1.cell? ⟨gy, 7, none⟩ = some (.int .i64 0) := (blk_cell BY4.out 7).trans rfl
  have cx8 : W1.cell? ⟨gy, 8, none⟩ = some (.int .i64 b2) := (blk_cell BY4.out 8).trans rfl
  have cx9 : W1.cell? ⟨gy, 9, none⟩ = some (.bool false) := (blk_cell BY4.out 9).trans rfl
  have cw0 : W1.cell? ⟨gw, 0, none⟩ = some (.int .i64 0) := (blk_cell BW4.out 0).trans rfl
  have cw1 : W1.cell? ⟨gw, 1, none⟩ = some (.int .i64 C) := (blk_cell BW4.out 1).trans rfl
  have cw2 : W1.cell? ⟨gw, 2, none⟩ = some (.int .i64 T) := (blk_cell BW4.out 2).trans rfl
  obtain ⟨xs, hxs⟩ : ∃ x : S34, x = ⟨⟨⟨#[]⟩, ⟨#[]⟩, 0, 0, 2, 0⟩, y2, 0, b2, false⟩ := ⟨_, rfl⟩
  have HRP : Aside0 (∀ W : World, Reps (k34.K W) k34.sz [xs] [.string ⟨#[]⟩, .string ⟨#[]⟩, .int .i64 0, .int .i64 0, .int .i64 2, .int .i64 0, .int .i64 y2, .int .i64 0, .int .i64 b2, .bool false]) := ⟨fun W => by rw [hxs]; exact (Reps.none _ _).snoc (k34_mk _ _) rfl⟩
  obtain ⟨SX, hSX⟩ : ∃ L : List S34, L = S ++ [xs] := ⟨_, rfl⟩
  have HSX := Aside0.mk hSX
  have EO : Aside0 (score_Of.f q2 SX (S.length : Int) 0 C T 255 a5 = some (m, u, r, true)) := ⟨by rw [hSX, hxs]; exact O2.out⟩
  clear hxs hSX
  go_region_held3 (fun w' => w'.cell? ⟨gy, 0, none⟩ = some (.string ⟨#[]⟩) ∧ w'.cell? ⟨gy, 1, none⟩ = some (.string ⟨#[]⟩) ∧ w'.cell? ⟨gy, 2, none⟩ = some (.int .i64 0) ∧ w'.cell? ⟨gy, 3, none⟩ = some (.int .i64 0) ∧ w'.cell? ⟨gy, 4, none⟩ = some (.int .i64 2) ∧ w'.cell? ⟨gy, 5, none⟩ = some (.int .i64 0) ∧ w'.cell? ⟨gy, 6, none⟩ = some (.int .i64 y2) ∧ w'.cell? ⟨gy, 7, none⟩ = some (.int .i64 0) ∧ w'.cell? ⟨gy, 8, none⟩ = some (.int .i64 b2) ∧ w'.cell? ⟨gy, 9, none⟩ = some (.bool false) ∧ w'.cell? ⟨gw, 0, none⟩ = some (.int .i64 0) ∧ w'.cell? ⟨gw, 1, none⟩ = some (.int .i64 C) ∧ w'.cell? ⟨gw, 2, none⟩ = some (.int .i64 T))
    (refine ⟨pw_cell_below (w := W1) ?_ cx0, pw_cell_below (w := W1) ?_ cx1, pw_cell_below (w := W1) ?_ cx2, pw_cell_below (w := W1) ?_ cx3, pw_cell_below (w := W1) ?_ cx4, pw_cell_below (w := W1) ?_ cx5, pw_cell_below (w := W1) ?_ cx6, pw_cell_below (w := W1) ?_ cx7, pw_cell_below (w := W1) ?_ cx8, pw_cell_below (w := W1) ?_ cx9, pw_cell_below (w := W1) ?_ cw0, pw_cell_below (w := W1) ?_ cw1, pw_cell_below (w := W1) ?_ cw2⟩ <;> (repeat (first | (with_reducible exact Below.refl _ _) | (with_reducible exact hB7) | (with_reducible exact hB6) | (with_reducible refine below_alloc ?_ _) | (with_reducible refine below_drew ?_) | (with_reducible refine below_step ?_ hB5) | ((with_reducible refine below_set ?_ ?_); rotate_left; (focus (first | omega | (simp; omega)))))))
    (first
      | (refine CA.gate_step #[.tmp 72, .tmp 73] #[25, 25] rfl ?_; refine CA.ext_first_step k34 (by kernel_rfl) (.tmp 72) (.tmp 73) 25 34 _ 96 (by kernel_rfl) Try.underlying25 info34 rfl (by decide) (by decide) km34b W1.heap.size As cs S (by kernel_rfl) (by kernel_rfl) (Kd.C_below HS4.out (by (repeat (first | (with_reducible exact Below.refl _ _) | (with_reducible exact hB7) | (with_reducible exact hB6) | (with_reducible refine below_alloc ?_ _) | (with_reducible refine below_drew ?_) | (with_reducible refine below_step ?_ hB5) | ((with_reducible refine below_set ?_ ?_); rotate_left; (focus (first | omega | (simp; omega)))))))) (by refine Below.size (B := W1.heap.size) ?_; (repeat (first | (with_reducible exact Below.refl _ _) | (with_reducible exact hB7) | (with_reducible exact hB6) | (with_reducible refine below_alloc ?_ _) | (with_reducible refine below_drew ?_) | (with_reducible refine below_step ?_ hB5) | ((with_reducible refine below_set ?_ ?_); rotate_left; (focus (first | omega | (simp; omega))))))) (by have := NS.out; omega) ?_; intro Ae ce w5 hE5 hB5; have s5 : W1.heap.size ≤ w5.heap.size := Below.size (B := W1.heap.size) (by (repeat (first | (with_reducible exact Below.refl _ _) | (with_reducible exact hB7) | (with_reducible exact hB6) | (with_reducible refine below_alloc ?_ _) | (with_reducible refine below_drew ?_) | (with_reducible refine below_step ?_ hB5) | ((with_reducible refine below_set ?_ ?_); rotate_left; (focus (first | omega | (simp; omega))))))))
      | (refine CA.gate_step #[.tmp 74, .tmp 76] #[25, 25] rfl ?_; first | (refine CA.ext_one_step (w0 := W1) k34 (by kernel_rfl) (.tmp 74) (.tmp 76) 25 34 _ 96 (by kernel_rfl) Try.underlying25 info34 rfl (by decide) (by decide) km34b W1.heap.size Ae ce S xs [.string ⟨#[]⟩, .string ⟨#[]⟩, .int .i64 0, .int .i64 0, .int .i64 2, .int .i64 0, .int .i64 y2, .int .i64 0, .int .i64 b2, .bool false] (by kernel_rfl) (w5.heap.size) ?_ ?_ (hE5.below (by (repeat (first | (with_reducible exact Below.refl _ _) | (with_reducible refine below_alloc ?_ _) | (with_reducible refine below_drew ?_))))) (HRP.out _) (by (repeat (first | (with_reducible exact Below.refl _ _) | (with_reducible exact hB7) | (with_reducible exact hB6) | (with_reducible refine below_alloc ?_ _) | (with_reducible refine below_drew ?_) | (with_reducible refine below_step ?_ hB5) | ((with_reducible refine below_set ?_ ?_); rotate_left; (focus (first | omega | (simp; omega))))))) (by refine Below.size (B := W1.heap.size) ?_; (repeat (first | (with_reducible exact Below.refl _ _) | (with_reducible exact hB7) | (with_reducible exact hB6) | (with_reducible refine below_alloc ?_ _) | (with_reducible refine below_drew ?_) | (with_reducible refine below_step ?_ hB5) | ((with_reducible refine below_set ?_ ?_); rotate_left; (focus (first | omega | (simp; omega))))))) (by have := NS.out; omega) SX HSX.out ?_; (focus (go_simp; done)); (focus ((repeat (first | ((with_reducible refine CA.blk_new_ ?_); (focus (simp; done))) | (with_reducible refine CA.blk_alloc_ ?_ _) | (with_reducible refine CA.blk_drew_ ?_) | (with_reducible refine CA.blk_below hB5 ?_))); done)); intro Af cf w6 hCf hcf hB6 hK6; have s6 : W1.heap.size ≤ w6.heap.size := Below.size hB6) | (refine CA.ext_one_step (w0 := W1) k34 (by kernel_rfl) (.tmp 74) (.tmp 76) 25 34 _ 96 (by kernel_rfl) Try.underlying25 info34 rfl (by decide) (by decide) km34b W1.heap.size Ae ce S xs [.string ⟨#[]⟩, .string ⟨#[]⟩, .int .i64 0, .int .i64 0, .int .i64 2, .int .i64 0, .int .i64 y2, .int .i64 0, .int .i64 b2, .bool false] (by kernel_rfl) (w5.heap.size + 1) ?_ ?_ (hE5.below (by (repeat (first | (with_reducible exact Below.refl _ _) | (with_reducible refine below_alloc ?_ _) | (with_reducible refine below_drew ?_))))) (HRP.out _) (by (repeat (first | (with_reducible exact Below.refl _ _) | (with_reducible exact hB7) | (with_reducible exact hB6) | (with_reducible refine below_alloc ?_ _) | (with_reducible refine below_drew ?_) | (with_reducible refine below_step ?_ hB5) | ((with_reducible refine below_set ?_ ?_); rotate_left; (focus (first | omega | (simp; omega))))))) (by refine Below.size (B := W1.heap.size) ?_; (repeat (first | (with_reducible exact Below.refl _ _) | (with_reducible exact hB7) | (with_reducible exact hB6) | (with_reducible refine below_alloc ?_ _) | (with_reducible refine below_drew ?_) | (with_reducible refine below_step ?_ hB5) | ((with_reducible refine below_set ?_ ?_); rotate_left; (focus (first | omega | (simp; omega))))))) (by have := NS.out; omega) SX HSX.out ?_; (focus (go_simp; done)); (focus ((repeat (first | ((with_reducible refine CA.blk_new_ ?_); (focus (simp; done))) | (with_reducible refine CA.blk_alloc_ ?_ _) | (with_reducible refine CA.blk_drew_ ?_) | (with_reducible refine CA.blk_below hB5 ?_))); done)); intro Af cf w6 hCf hcf hB6 hK6; have s6 : W1.heap.size ≤ w6.heap.size := Below.size hB6) | (refine CA.ext_one_step (w0 := W1) k34 (by kernel_rfl) (.tmp 74) (.tmp 76) 25 34 _ 96 (by kernel_rfl) Try.underlying25 info34 rfl (by decide) (by decide) km34b W1.heap.size Ae ce S xs [.string ⟨#[]⟩, .string ⟨#[]⟩, .int .i64 0, .int .i64 0, .int .i64 2, .int .i64 0, .int .i64 y2, .int .i64 0, .int .i64 b2, .bool false] (by kernel_rfl) (W1.heap.size) ?_ ?_ (hE5.below (by (repeat (first | (with_reducible exact Below.refl _ _) | (with_reducible refine below_alloc ?_ _) | (with_reducible refine below_drew ?_))))) (HRP.out _) (by (repeat (first | (with_reducible exact Below.refl _ _) | (with_reducible exact hB7) | (with_reducible exact hB6) | (with_reducible refine below_alloc ?_ _) | (with_reducible refine below_drew ?_) | (with_reducible refine below_step ?_ hB5) | ((with_reducible refine below_set ?_ ?_); rotate_left; (focus (first | omega | (simp; omega))))))) (by refine Below.size (B := W1.heap.size) ?_; (repeat (first | (with_reducible exact Below.refl _ _) | (with_reducible exact hB7) | (with_reducible exact hB6) | (with_reducible refine below_alloc ?_ _) | (with_reducible refine below_drew ?_) | (with_reducible refine below_step ?_ hB5) | ((with_reducible refine below_set ?_ ?_); rotate_left; (focus (first | omega | (simp; omega))))))) (by have := NS.out; omega) SX HSX.out ?_; (focus (go_simp; done)); (focus ((repeat (first | ((with_reducible refine CA.blk_new_ ?_); (focus (simp; done))) | (with_reducible refine CA.blk_alloc_ ?_ _) | (with_reducible refine CA.blk_drew_ ?_) | (with_reducible refine CA.blk_below hB5 ?_))); done)); intro Af cf w6 hCf hcf hB6 hK6; have s6 : W1.heap.size ≤ w6.heap.size := Below.size hB6) | (refine CA.ext_one_step (w0 := W1) k34 (by kernel_rfl) (.tmp 74) (.tmp 76) 25 34 _ 96 (by kernel_rfl) Try.underlying25 info34 rfl (by decide) (by decide) km34b W1.heap.size Ae ce S xs [.string ⟨#[]⟩, .string ⟨#[]⟩, .int .i64 0, .int .i64 0, .int .i64 2, .int .i64 0, .int .i64 y2, .int .i64 0, .int .i64 b2, .bool false] (by kernel_rfl) (W1.heap.size + 1) ?_ ?_ (hE5.below (by (repeat (first | (with_reducible exact Below.refl _ _) | (with_reducible refine below_alloc ?_ _) | (with_reducible refine below_drew ?_))))) (HRP.out _) (by (repeat (first | (with_reducible exact Below.refl _ _) | (with_reducible exact hB7) | (with_reducible exact hB6) | (with_reducible refine below_alloc ?_ _) | (with_reducible refine below_drew ?_) | (with_reducible refine below_step ?_ hB5) | ((with_reducible refine below_set ?_ ?_); rotate_left; (focus (first | omega | (simp; omega))))))) (by refine Below.size (B := W1.heap.size) ?_; (repeat (first | (with_reducible exact Below.refl _ _) | (with_reducible exact hB7) | (with_reducible exact hB6) | (with_reducible refine below_alloc ?_ _) | (with_reducible refine below_drew ?_) | (with_reducible refine below_step ?_ hB5) | ((with_reducible refine below_set ?_ ?_); rotate_left; (focus (first | omega | (simp; omega))))))) (by have := NS.out; omega) SX HSX.out ?_; (focus (go_simp; done)); (focus ((repeat (first | ((with_reducible refine CA.blk_new_ ?_); (focus (simp; done))) | (with_reducible refine CA.blk_alloc_ ?_ _) | (with_reducible refine CA.blk_drew_ ?_) | (with_reducible refine CA.blk_below hB5 ?_))); done)); intro Af cf w6 hCf hcf hB6 hK6; have s6 : W1.heap.size ≤ w6.heap.size := Below.size hB6) | (refine CA.ext_one_step (w0 := W1) k34 (by kernel_rfl) (.tmp 74) (.tmp 76) 25 34 _ 96 (by kernel_rfl) Try.underlying25 info34 rfl (by decide) (by decide) km34b W1.heap.size Ae ce S xs [.string ⟨#[]⟩, .string ⟨#[]⟩, .int .i64 0, .int .i64 0, .int .i64 2, .int .i64 0, .int .i64 y2, .int .i64 0, .int .i64 b2, .bool false] (by kernel_rfl) (W1.heap.size + 1 + 1) ?_ ?_ (hE5.below (by (repeat (first | (with_reducible exact Below.refl _ _) | (with_reducible refine below_alloc ?_ _) | (with_reducible refine below_drew ?_))))) (HRP.out _) (by (repeat (first | (with_reducible exact Below.refl _ _) | (with_reducible exact hB7) | (with_reducible exact hB6) | (with_reducible refine below_alloc ?_ _) | (with_reducible refine below_drew ?_) | (with_reducible refine below_step ?_ hB5) | ((with_reducible refine below_set ?_ ?_); rotate_left; (focus (first | omega | (simp; omega))))))) (by refine Below.size (B := W1.heap.size) ?_; (repeat (first | (with_reducible exact Below.refl _ _) | (with_reducible exact hB7) | (with_reducible exact hB6) | (with_reducible refine below_alloc ?_ _) | (with_reducible refine below_drew ?_) | (with_reducible refine below_step ?_ hB5) | ((with_reducible refine below_set ?_ ?_); rotate_left; (focus (first | omega | (simp; omega))))))) (by have := NS.out; omega) SX HSX.out ?_; (focus (go_simp; done)); (focus ((repeat (first | ((with_reducible refine CA.blk_new_ ?_); (focus (simp; done))) | (with_reducible refine CA.blk_alloc_ ?_ _) | (with_reducible refine CA.blk_drew_ ?_) | (with_reducible refine CA.blk_below hB5 ?_))); done)); intro Af cf w6 hCf hcf hB6 hK6; have s6 : W1.heap.size ≤ w6.heap.size := Below.size hB6))
      | (go_at_call 19; refine (score_Of.calls q2 Af cf SX (S.length : Int) 0 C T 255 a5 m u r true _ (Kd.C_below hCf (by (repeat (first | (with_reducible exact Below.refl _ _) | (with_reducible refine below_alloc ?_ _) | (with_reducible refine below_drew ?_))))) hcf EO.out).mono ?_; rintro e7 w7 ⟨rfl, hB7z⟩; have hB7 : Below W1.heap.size W1 w7 := below_step (by (repeat (first | (with_reducible exact Below.refl _ _) | (with_reducible exact hB6) | (with_reducible refine below_alloc ?_ _) | (with_reducible refine below_drew ?_) | (with_reducible refine below_step ?_ hB5) | ((with_reducible refine below_set ?_ ?_); rotate_left; (focus (first | omega | (simp; omega))))))) hB7z; have s7 : W1.heap.size ≤ w7.heap.size := Below.size hB7; first | (have zb : w7.heap[W1.heap.size]? = some (.cells #[.int .i64 0, .int .i64 0, .int .i64 0] 37 (0, 0)) := ?_; rotate_left; (focus ((repeat (first | ((with_reducible refine CA.blk_new_ ?_); (focus (simp; done))) | (with_reducible refine CA.blk_alloc_ ?_ _) | (with_reducible refine CA.blk_drew_ ?_) | (with_reducible refine CA.blk_below hB7z ?_) | (with_reducible refine CA.keepT_blk hK6 (by decide) ?_) | (with_reducible refine CA.blk_below hB5 ?_))); done)); have z0 : w7.cell? ⟨W1.heap.size, 0, none⟩ = some (.int .i64 0) := (blk_cell zb 0).trans rfl; have z1 : w7.cell? ⟨W1.heap.size, 1, none⟩ = some (.int .i64 0) := (blk_cell zb 1).trans rfl; have z2 : w7.cell? ⟨W1.heap.size, 2, none⟩ = some (.int .i64 0) := (blk_cell zb 2).trans rfl; have zf0 := blk_frozen zb 0; have zf1 := blk_frozen zb 1; have zf2 := blk_frozen zb 2) | (have zb : w7.heap[W1.heap.size + 1]? = some (.cells #[.int .i64 0, .int .i64 0, .int .i64 0] 37 (0, 0)) := ?_; rotate_left; (focus ((repeat (first | ((with_reducible refine CA.blk_new_ ?_); (focus (simp; done))) | (with_reducible refine CA.blk_alloc_ ?_ _) | (with_reducible refine CA.blk_drew_ ?_) | (with_reducible refine CA.blk_below hB7z ?_) | (with_reducible refine CA.keepT_blk hK6 (by decide) ?_) | (with_reducible refine CA.blk_below hB5 ?_))); done)); have z0 : w7.cell? ⟨W1.heap.size + 1, 0, none⟩ = some (.int .i64 0) := (blk_cell zb 0).trans rfl; have z1 : w7.cell? ⟨W1.heap.size + 1, 1, none⟩ = some (.int .i64 0) := (blk_cell zb 1).trans rfl; have z2 : w7.cell? ⟨W1.heap.size + 1, 2, none⟩ = some (.int .i64 0) := (blk_cell zb 2).trans rfl; have zf0 := blk_frozen zb 0; have zf1 := blk_frozen zb 1; have zf2 := blk_frozen zb 2) | (have zb : w7.heap[W1.heap.size + 1 + 1]? = some (.cells #[.int .i64 0, .int .i64 0, .int .i64 0] 37 (0, 0)) := ?_; rotate_left; (focus ((repeat (first | ((with_reducible refine CA.blk_new_ ?_); (focus (simp; done))) | (with_reducible refine CA.blk_alloc_ ?_ _) | (with_reducible refine CA.blk_drew_ ?_) | (with_reducible refine CA.blk_below hB7z ?_) | (with_reducible refine CA.keepT_blk hK6 (by decide) ?_) | (with_reducible refine CA.blk_below hB5 ?_))); done)); have z0 : w7.cell? ⟨W1.heap.size + 1 + 1, 0, none⟩ = some (.int .i64 0) := (blk_cell zb 0).trans rfl; have z1 : w7.cell? ⟨W1.heap.size + 1 + 1, 1, none⟩ = some (.int .i64 0) := (blk_cell zb 1).trans rfl; have z2 : w7.cell? ⟨W1.heap.size + 1 + 1, 2, none⟩ = some (.int .i64 0) := (blk_cell zb 2).trans rfl; have zf0 := blk_frozen zb 0; have zf1 := blk_frozen zb 1; have zf2 := blk_frozen zb 2) | (have zb : w7.heap[w5.heap.size]? = some (.cells #[.int .i64 0, .int .i64 0, .int .i64 0] 37 (0, 0)) := ?_; rotate_left; (focus ((repeat (first | ((with_reducible refine CA.blk_new_ ?_); (focus (simp; done))) | (with_reducible refine CA.blk_alloc_ ?_ _) | (with_reducible refine CA.blk_drew_ ?_) | (with_reducible refine CA.blk_below hB7z ?_) | (with_reducible refine CA.keepT_blk hK6 (by decide) ?_) | (with_reducible refine CA.blk_below hB5 ?_))); done)); have z0 : w7.cell? ⟨w5.heap.size, 0, none⟩ = some (.int .i64 0) := (blk_cell zb 0).trans rfl; have z1 : w7.cell? ⟨w5.heap.size, 1, none⟩ = some (.int .i64 0) := (blk_cell zb 1).trans rfl; have z2 : w7.cell? ⟨w5.heap.size, 2, none⟩ = some (.int .i64 0) := (blk_cell zb 2).trans rfl; have zf0 := blk_frozen zb 0; have zf1 := blk_frozen zb 1; have zf2 := blk_frozen zb 2) | (have zb : w7.heap[w5.heap.size + 1]? = some (.cells #[.int .i64 0, .int .i64 0, .int .i64 0] 37 (0, 0)) := ?_; rotate_left; (focus ((repeat (first | ((with_reducible refine CA.blk_new_ ?_); (focus (simp; done))) | (with_reducible refine CA.blk_alloc_ ?_ _) | (with_reducible refine CA.blk_drew_ ?_) | (with_reducible refine CA.blk_below hB7z ?_) | (with_reducible refine CA.keepT_blk hK6 (by decide) ?_) | (with_reducible refine CA.blk_below hB5 ?_))); done)); have z0 : w7.cell? ⟨w5.heap.size + 1, 0, none⟩ = some (.int .i64 0) := (blk_cell zb 0).trans rfl; have z1 : w7.cell? ⟨w5.heap.size + 1, 1, none⟩ = some (.int .i64 0) := (blk_cell zb 1).trans rfl; have z2 : w7.cell? ⟨w5.heap.size + 1, 2, none⟩ = some (.int .i64 0) := (blk_cell zb 2).trans rfl; have zf0 := blk_frozen zb 0; have zf1 := blk_frozen zb 1; have zf2 := blk_frozen zb 2) | (have zb : w7.heap[w6.heap.size]? = some (.cells #[.int .i64 0, .int .i64 0, .int .i64 0] 37 (0, 0)) := ?_; rotate_left; (focus ((repeat (first | ((with_reducible refine CA.blk_new_ ?_); (focus (simp; done))) | (with_reducible refine CA.blk_alloc_ ?_ _) | (with_reducible refine CA.blk_drew_ ?_) | (with_reducible refine CA.blk_below hB7z ?_) | (with_reducible refine CA.keepT_blk hK6 (by decide) ?_) | (with_reducible refine CA.blk_below hB5 ?_))); done)); have z0 : w7.cell? ⟨w6.heap.size, 0, none⟩ = some (.int .i64 0) := (blk_cell zb 0).trans rfl; have z1 : w7.cell? ⟨w6.heap.size, 1, none⟩ = some (.int .i64 0) := (blk_cell zb 1).trans rfl; have z2 : w7.cell? ⟨w6.heap.size, 2, none⟩ = some (.int .i64 0) := (blk_cell zb 2).trans rfl; have zf0 := blk_frozen zb 0; have zf1 := blk_frozen zb 1; have zf2 := blk_frozen zb 2) | skip))
  all_goals
    go_step
    go_step
    go_meet
    first
      | ((with_reducible refine ⟨_, rfl, rfl, ⟨CA.put3 zb⟩, ⟨?_⟩⟩); (repeat (first | (with_reducible exact Below.refl _ _) | (with_reducible exact hB7) | (with_reducible exact hB6) | (with_reducible refine below_alloc ?_ _) | (with_reducible refine below_drew ?_) | (with_reducible refine below_step ?_ hB5) | ((with_reducible refine below_set ?_ ?_); rotate_left; (focus (first | omega | (simp; omega)))))))
      | ((with_reducible refine ⟨_, rfl, rfl, ⟨CA.blk_new_ ?_⟩, ⟨?_⟩⟩); (focus rfl); (repeat (first | (with_reducible exact Below.refl _ _) | (with_reducible exact hB7) | (with_reducible exact hB6) | (with_reducible refine below_alloc ?_ _) | (with_reducible refine below_drew ?_) | (with_reducible refine below_step ?_ hB5) | ((with_reducible refine below_set ?_ ?_); rotate_left; (focus (first | omega | (simp; omega)))))))
end Go.Proofs.Ytdmhdbebjjhopaa.PA
