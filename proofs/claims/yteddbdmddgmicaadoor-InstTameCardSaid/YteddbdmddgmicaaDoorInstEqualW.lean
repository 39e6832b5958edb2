/- The walk of InstEqual. -/
import Derived.Test.YteddbdmddgmicaaDoorIR
import Derived.Test.YteddbdmddgmicaaDoorIK
import Derived.Test.YteddbdmddgmicaaDoorIU
namespace Go.Proofs.YteddbdmddgmicaaDoor
open Go.RowKit
set_option linter.unusedVariables false
set_option linter.unusedSimpArgs false
set_option maxRecDepth 100000

theorem eqD_refl (I : IData) : eqD I I = true := by simp [eqD]
theorem cutF_len (I : IData) : ILen (cutF I) := by
  constructor
  · simp only [cutF, List.length_take]; omega
  · simp only [cutF, List.length_map, List.length_take]; omega
  · simp only [cutF, List.length_map, List.length_take]; omega
  · intro r hr
    obtain ⟨q, _, rfl⟩ := List.mem_map.1 hr
    rw [List.length_take]; omega
  · intro r hr
    obtain ⟨q, _, rfl⟩ := List.mem_map.1 hr
    simp only [List.length_take]; omega
/-- What insts hands back, all of it said of the instance that is cut. -/
def InsPostC (w : World) (J : IData) (e : Ending) (w' : World) : Prop := ∃ D1 d1 D2 d2 D3 d3 E1 e1 E2 e2 E3 e3, e = .returned (.tuple #[.agg #[.int .i64 J.kind, .int .i64 J.cap, .slice D1 J.items.length d1, .slice D2 J.cost.length d2, .int .i64 J.size, .slice D3 J.sets.length d3], .agg #[.int .i64 J.kind, .int .i64 J.cap, .slice E1 J.items.length e1, .slice E2 J.cost.length e2, .int .i64 J.size, .slice E3 J.sets.length e3]]) ∧
  (OwnI w' (w.heap.size + 1 + 1 + 1 + 1 + 1) 52 56 J D1 d1 D2 d2 D3 d3 ∧ OwnI w' (w.heap.size + 1 + 1 + 1 + 1 + 1) 60 62 J E1 e1 E2 e2 E3 e3) ∧ Below w.heap.size w w'
theorem insts_c (I : IData) (A1 A2 A3 : Option Addr) (c1 c2 c3 : Nat) (w : World) {B : Nat} (hI : InstAt w B I A1 c1 A2 c2 A3 c3) : Calls Tryd.prog 8 #[.agg #[.int .i64 I.kind, .int .i64 I.cap, .slice A1 I.items.length c1, .slice A2 I.cost.length c2, .int .i64 I.size, .slice A3 I.sets.length c3]] w fun e w' => InsPostC w (cutF I) e w' := insts_any I A1 A2 A3 c1 c2 c3 w hI
/-- Two pairs of instances in their variables. -/
structure EqR (wr : World) (ga gc : Nat) (I J : IData) (D1 D2 D3 E1 E2 E3 F1 F2 F3 G1 G2 G3 : Option Addr) (d1 d2 d3 e1 e2 e3 f1 f2 f3 g1 g2 g3 : Nat) : Prop where
  a : Blk wr ga 33 #[.int .i64 I.kind, .int .i64 I.cap, .slice D1 I.items.length d1, .slice D2 I.cost.length d2, .int .i64 I.size, .slice D3 I.sets.length d3]
  b : Blk wr (ga + 1) 36 #[.int .i64 I.kind, .int .i64 I.cap, .slice E1 I.items.length e1, .slice E2 I.cost.length e2, .int .i64 I.size, .slice E3 I.sets.length e3]
  c : Blk wr gc 33 #[.int .i64 J.kind, .int .i64 J.cap, .slice F1 J.items.length f1, .slice F2 J.cost.length f2, .int .i64 J.size, .slice F3 J.sets.length f3]
  d : Blk wr (gc + 1) 36 #[.int .i64 J.kind, .int .i64 J.cap, .slice G1 J.items.length g1, .slice G2 J.cost.length g2, .int .i64 J.size, .slice G3 J.sets.length g3]
  oa : ∃ k, OwnI wr k 52 56 I D1 d1 D2 d2 D3 d3
  ob : ∃ k, OwnI wr k 60 62 I E1 e1 E2 e2 E3 e3
  oc : ∃ k, OwnI wr k 52 56 J F1 f1 F2 f2 F3 f3
  od : ∃ k, OwnI wr k 60 62 J G1 g1 G2 g2 G3 g3
  nm : NamesW wr
section
variable {w w' : World} {ga gc : Nat} {I J : IData} {D1 D2 D3 E1 E2 E3 F1 F2 F3 G1 G2 G3 : Option Addr} {d1 d2 d3 e1 e2 e3 f1 f2 f3 g1 g2 g3 : Nat}
theorem EqR.below (h : EqR w ga gc I J D1 D2 D3 E1 E2 E3 F1 F2 F3 G1 G2 G3 d1 d2 d3 e1 e2 e3 f1 f2 f3 g1 g2 g3) (hb : Below w.heap.size w w') : EqR w' ga gc I J D1 D2 D3 E1 E2 E3 F1 F2 F3 G1 G2 G3 d1 d2 d3 e1 e2 e3 f1 f2 f3 g1 g2 g3 := by
  obtain ⟨_, oa⟩ := h.oa
  obtain ⟨_, ob⟩ := h.ob
  obtain ⟨_, oc⟩ := h.oc
  obtain ⟨_, od⟩ := h.od
  exact ⟨h.a.below hb, h.b.below hb, h.c.below hb, h.d.below hb, ⟨_, oa.below hb⟩, ⟨_, ob.below hb⟩, ⟨_, oc.below hb⟩, ⟨_, od.below hb⟩, h.nm.below hb⟩
theorem EqR.drew (h : EqR w ga gc I J D1 D2 D3 E1 E2 E3 F1 F2 F3 G1 G2 G3 d1 d2 d3 e1 e2 e3 f1 f2 f3 g1 g2 g3) : EqR w.drew ga gc I J D1 D2 D3 E1 E2 E3 F1 F2 F3 G1 G2 G3 d1 d2 d3 e1 e2 e3 f1 f2 f3 g1 g2 g3 := h.below (bl_drew (Below.refl _ _))
theorem eq_ac (h : EqR w ga gc I J D1 D2 D3 E1 E2 E3 F1 F2 F3 G1 G2 G3 d1 d2 d3 e1 e2 e3 f1 f2 f3 g1 g2 g3) {z : Bool} (hz : Hid (eqD I J = z)) : Calls Tryd.prog 15 #[.agg #[.int .i64 I.kind, .int .i64 I.cap, .slice D1 I.items.length d1, .slice D2 I.cost.length d2, .int .i64 I.size, .slice D3 I.sets.length d3], .agg #[.int .i64 J.kind, .int .i64 J.cap, .slice F1 J.items.length f1, .slice F2 J.cost.length f2, .int .i64 J.size, .slice F3 J.sets.length f3]] w fun e w' => e = .returned (.bool z) ∧ Below w.heap.size w w' := by
  obtain ⟨_, oa⟩ := h.oa
  obtain ⟨_, oc⟩ := h.oc
  rw [← hz.out]
  exact equal_any I J _ _ _ _ _ _ _ _ _ _ _ _ w oa.inst oc.inst
theorem eq_bd (h : EqR w ga gc I J D1 D2 D3 E1 E2 E3 F1 F2 F3 G1 G2 G3 d1 d2 d3 e1 e2 e3 f1 f2 f3 g1 g2 g3) {z : Bool} (hz : Hid (eqD I J = z)) : Calls Tryd.prog 16 #[.agg #[.int .i64 I.kind, .int .i64 I.cap, .slice E1 I.items.length e1, .slice E2 I.cost.length e2, .int .i64 I.size, .slice E3 I.sets.length e3], .agg #[.int .i64 J.kind, .int .i64 J.cap, .slice G1 J.items.length g1, .slice G2 J.cost.length g2, .int .i64 J.size, .slice G3 J.sets.length g3]] w fun e w' => e = .returned (.bool z) ∧ Below w.heap.size w w' := by
  obtain ⟨_, ob⟩ := h.ob
  obtain ⟨_, od⟩ := h.od
  rw [← hz.out]
  exact bequal_any I J _ _ _ _ _ _ _ _ _ _ _ _ w ob.inst od.inst
theorem eq_cp (h : EqR w ga gc I J D1 D2 D3 E1 E2 E3 F1 F2 F3 G1 G2 G3 d1 d2 d3 e1 e2 e3 f1 f2 f3 g1 g2 g3) (hl : ILen I) : Calls Tryd.prog 17 #[.agg #[.int .i64 I.kind, .int .i64 I.cap, .slice D1 I.items.length d1, .slice D2 I.cost.length d2, .int .i64 I.size, .slice D3 I.sets.length d3]] w fun e w' => ∃ K1 k1 K2 k2 K3 k3, e = .returned (.agg #[.int .i64 I.kind, .int .i64 I.cap, .slice K1 I.items.length k1, .slice K2 I.cost.length k2, .int .i64 I.size, .slice K3 I.sets.length k3]) ∧ OwnI w' (w.heap.size + 3) 52 56 I K1 k1 K2 k2 K3 k3 ∧ Below w.heap.size w w' := by
  obtain ⟨_, oa⟩ := h.oa
  exact copy_any I _ _ _ _ _ _ w oa.inst hl
theorem eq_ak (h : EqR w ga gc I J D1 D2 D3 E1 E2 E3 F1 F2 F3 G1 G2 G3 d1 d2 d3 e1 e2 e3 f1 f2 f3 g1 g2 g3) {b : Nat} {K1 K2 K3 : Option Addr} {k1 k2 k3 : Nat} (ho : OwnI w b 52 56 I K1 k1 K2 k2 K3 k3) : Calls Tryd.prog 15 #[.agg #[.int .i64 I.kind, .int .i64 I.cap, .slice D1 I.items.length d1, .slice D2 I.cost.length d2, .int .i64 I.size, .slice D3 I.sets.length d3], .agg #[.int .i64 I.kind, .int .i64 I.cap, .slice K1 I.items.length k1, .slice K2 I.cost.length k2, .int .i64 I.size, .slice K3 I.sets.length k3]] w fun e w' => e = .returned (.bool true) ∧ Below w.heap.size w w' := by
  obtain ⟨_, oa⟩ := h.oa
  rw [← eqD_refl I]
  exact equal_any I I _ _ _ _ _ _ _ _ _ _ _ _ w oa.inst ho.inst
theorem eq_ka (h : EqR w ga gc I J D1 D2 D3 E1 E2 E3 F1 F2 F3 G1 G2 G3 d1 d2 d3 e1 e2 e3 f1 f2 f3 g1 g2 g3) {b : Nat} {K1 K2 K3 : Option Addr} {k1 k2 k3 : Nat} (ho : OwnI w b 52 56 I K1 k1 K2 k2 K3 k3) : Calls Tryd.prog 15 #[.agg #[.int .i64 I.kind, .int .i64 I.cap, .slice K1 I.items.length k1, .slice K2 I.cost.length k2, .int .i64 I.size, .slice K3 I.sets.length k3], .agg #[.int .i64 I.kind, .int .i64 I.cap, .slice D1 I.items.length d1, .slice D2 I.cost.length d2, .int .i64 I.size, .slice D3 I.sets.length d3]] w fun e w' => e = .returned (.bool true) ∧ Below w.heap.size w w' := by
  obtain ⟨_, oa⟩ := h.oa
  rw [← eqD_refl I]
  exact equal_any I I _ _ _ _ _ _ _ _ _ _ _ _ w ho.inst oa.inst
end
set_option maxHeartbeats 6400000 in
theorem InstEqual_walk (I J : IData) (A1 A2 A3 B1 B2 B3 : Option Addr) (a1 a2 a3 b1 b2 b3 : Nat) (w : World) (hw : NamesW w) (hI : InstAt w w.heap.size I A1 a1 A2 a2 A3 a3) (hJ : InstAt w w.heap.size J B1 b1 B2 b2 B3 b3) :
    Calls Tryd.prog 4 #[.agg #[.int .i64 I.kind, .int .i64 I.cap, .slice A1 I.items.length a1, .slice A2 I.cost.length a2, .int .i64 I.size, .slice A3 I.sets.length a3], .agg #[.int .i64 J.kind, .int .i64 J.cap, .slice B1 J.items.length b1, .slice B2 J.cost.length b2, .int .i64 J.size, .slice B3 J.sets.length b3]] w fun e w' => e = .returned (.bool true) ∧ Below w.heap.size w w' := by
  have HN := Lib.hid hw
  have H1 := Lib.hid (fun w' (hb : Below w.heap.size w w') => insts_c I A1 A2 A3 a1 a2 a3 w' (hI.below hb))
  have H2 := Lib.hid (fun w' (hb : Below w.heap.size w w') => insts_c J B1 B2 B3 b1 b2 b3 w' (hJ.below hb))
  have HL := Lib.hid (cutF_len I)
  clear hw hI hJ
  go_enter Tryd.func4, Tryd.ntmps4
  go_wp2_with fail
  have bl0 : Below w.heap.size w ((w.alloc (.cells #[.int .i64 I.kind, .int .i64 I.cap, .slice A1 I.items.length a1, .slice A2 I.cost.length a2, .int .i64 I.size, .slice A3 I.sets.length a3] 26)).alloc (.cells #[.int .i64 J.kind, .int .i64 J.cap, .slice B1 J.items.length b1, .slice B2 J.cost.length b2, .int .i64 J.size, .slice B3 J.sets.length b3] 26)) := bl_alloc (bl_alloc (Below.refl _ _) _) _
  (with_reducible refine (H1.out _ bl0).mono ?_); rintro e w1 ⟨D1, d1, D2, d2, D3, d3, E1, e1, E2, e2, E3, e3, rfl, ⟨oa, ob⟩, hb1⟩
  have bl1 := bl_step bl0 hb1
  have By : Blk w1 (w.heap.size + 1) 26 #[.int .i64 J.kind, .int .i64 J.cap, .slice B1 J.items.length b1, .slice B2 J.cost.length b2, .int .i64 J.size, .slice B3 J.sets.length b3] := (Blk.new' (by simp) _ _).below hb1
  have OA := Lib.hid oa
  have OB := Lib.hid ob
  clear oa ob H1
  have By2 : Blk ((w1.alloc (.cells #[.int .i64 (cutF I).kind, .int .i64 (cutF I).cap, .slice D1 (cutF I).items.length d1, .slice D2 (cutF I).cost.length d2, .int .i64 (cutF I).size, .slice D3 (cutF I).sets.length d3] 33)).alloc (.cells #[.int .i64 (cutF I).kind, .int .i64 (cutF I).cap, .slice E1 (cutF I).items.length e1, .slice E2 (cutF I).cost.length e2, .int .i64 (cutF I).size, .slice E3 (cutF I).sets.length e3] 36)) (w.heap.size + 1) 26 #[.int .i64 J.kind, .int .i64 J.cap, .slice B1 J.items.length b1, .slice B2 J.cost.length b2, .int .i64 J.size, .slice B3 J.sets.length b3] := (By.alloc _).alloc _
  have y_z : w.heap.size + 1 < ((w1.alloc (.cells #[.int .i64 (cutF I).kind, .int .i64 (cutF I).cap, .slice D1 (cutF I).items.length d1, .slice D2 (cutF I).cost.length d2, .int .i64 (cutF I).size, .slice D3 (cutF I).sets.length d3] 33)).alloc (.cells #[.int .i64 (cutF I).kind, .int .i64 (cutF I).cap, .slice E1 (cutF I).items.length e1, .slice E2 (cutF I).cost.length e2, .int .i64 (cutF I).size, .slice E3 (cutF I).sets.length e3] 36)).heap.size := By2.lt
  have y_c0 : ((w1.alloc (.cells #[.int .i64 (cutF I).kind, .int .i64 (cutF I).cap, .slice D1 (cutF I).items.length d1, .slice D2 (cutF I).cost.length d2, .int .i64 (cutF I).size, .slice D3 (cutF I).sets.length d3] 33)).alloc (.cells #[.int .i64 (cutF I).kind, .int .i64 (cutF I).cap, .slice E1 (cutF I).items.length e1, .slice E2 (cutF I).cost.length e2, .int .i64 (cutF I).size, .slice E3 (cutF I).sets.length e3] 36)).cell? ⟨w.heap.size + 1, 0, none⟩ = some (.int .i64 J.kind) := (By2.cell 0).trans rfl
  have y_f0 := By2.frozen 0
  have y_c1 : ((w1.alloc (.cells #[.int .i64 (cutF I).kind, .int .i64 (cutF I).cap, .slice D1 (cutF I).items.length d1, .slice D2 (cutF I).cost.length d2, .int .i64 (cutF I).size, .slice D3 (cutF I).sets.length d3] 33)).alloc (.cells #[.int .i64 (cutF I).kind, .int .i64 (cutF I).cap, .slice E1 (cutF I).items.length e1, .slice E2 (cutF I).cost.length e2, .int .i64 (cutF I).size, .slice E3 (cutF I).sets.length e3] 36)).cell? ⟨w.heap.size + 1, 1, none⟩ = some (.int .i64 J.cap) := (By2.cell 1).trans rfl
  have y_f1 := By2.frozen 1
  have y_c2 : ((w1.alloc (.cells #[.int .i64 (cutF I).kind, .int .i64 (cutF I).cap, .slice D1 (cutF I).items.length d1, .slice D2 (cutF I).cost.length d2, .int .i64 (cutF I).size, .slice D3 (cutF I).sets.length d3] 33)).alloc (.cells #[.int .i64 (cutF I).kind, .int .i64 (cutF I).cap, .slice E1 (cutF I).items.length e1, .slice E2 (cutF I).cost.length e2, .int .i64 (cutF I).size, .slice E3 (cutF I).sets.length e3] 36)).cell? ⟨w.heap.size + 1, 2, none⟩ = some (.slice B1 J.items.length b1) := (By2.cell 2).trans rfl
  have y_f2 := By2.frozen 2
  have y_c3 : ((w1.alloc (.cells #[.int .i64 (cutF I).kind, .int .i64 (cutF I).cap, .slice D1 (cutF I).items.length d1, .slice D2 (cutF I).cost.length d2, .int .i64 (cutF I).size, .slice D3 (cutF I).sets.length d3] 33)).alloc (.cells #[.int .i64 (cutF I).kind, .int .i64 (cutF I).cap, .slice E1 (cutF I).items.length e1, .slice E2 (cutF I).cost.length e2, .int .i64 (cutF I).size, .slice E3 (cutF I).sets.length e3] 36)).cell? ⟨w.heap.size + 1, 3, none⟩ = some (.slice B2 J.cost.length b2) := (By2.cell 3).trans rfl
  have y_f3 := By2.frozen 3
  have y_c4 : ((w1.alloc (.cells #[.int .i64 (cutF I).kind, .int .i64 (cutF I).cap, .slice D1 (cutF I).items.length d1, .slice D2 (cutF I).cost.length d2, .int .i64 (cutF I).size, .slice D3 (cutF I).sets.length d3] 33)).alloc (.cells #[.int .i64 (cutF I).kind, .int .i64 (cutF I).cap, .slice E1 (cutF I).items.length e1, .slice E2 (cutF I).cost.length e2, .int .i64 (cutF I).size, .slice E3 (cutF I).sets.length e3] 36)).cell? ⟨w.heap.size + 1, 4, none⟩ = some (.int .i64 J.size) := (By2.cell 4).trans rfl
  have y_f4 := By2.frozen 4
  have y_c5 : ((w1.alloc (.cells #[.int .i64 (cutF I).kind, .int .i64 (cutF I).cap, .slice D1 (cutF I).items.length d1, .slice D2 (cutF I).cost.length d2, .int .i64 (cutF I).size, .slice D3 (cutF I).sets.length d3] 33)).alloc (.cells #[.int .i64 (cutF I).kind, .int .i64 (cutF I).cap, .slice E1 (cutF I).items.length e1, .slice E2 (cutF I).cost.length e2, .int .i64 (cutF I).size, .slice E3 (cutF I).sets.length e3] 36)).cell? ⟨w.heap.size + 1, 5, none⟩ = some (.slice B3 J.sets.length b3) := (By2.cell 5).trans rfl
  have y_f5 := By2.frozen 5
  go_wp2_with fail
  have bl2 : Below w.heap.size w ((w1.alloc (.cells #[.int .i64 (cutF I).kind, .int .i64 (cutF I).cap, .slice D1 (cutF I).items.length d1, .slice D2 (cutF I).cost.length d2, .int .i64 (cutF I).size, .slice D3 (cutF I).sets.length d3] 33)).alloc (.cells #[.int .i64 (cutF I).kind, .int .i64 (cutF I).cap, .slice E1 (cutF I).items.length e1, .slice E2 (cutF I).cost.length e2, .int .i64 (cutF I).size, .slice E3 (cutF I).sets.length e3] 36)) := bl_alloc (bl_alloc bl1 _) _
  (with_reducible refine (H2.out _ bl2).mono ?_); rintro e w2 ⟨F1, f1, F2, f2, F3, f3, G1, g1, G2, g2, G3, g3, rfl, ⟨oc, od⟩, hb2⟩
  have bl3 := bl_step bl2 hb2
  have OC := Lib.hid oc
  have OD := Lib.hid od
  clear oc od H2
  clear y_z y_c0 y_f0 y_c1 y_f1 y_c2 y_f2 y_c3 y_f3 y_c4 y_f4 y_c5 y_f5
  go_wp2_with fail
  obtain ⟨z, hz⟩ : ∃ z, eqD (cutF I) (cutF J) = z := ⟨_, rfl⟩
  have HZ := Lib.hid hz
  have nb : Below w2.heap.size w2 ((w2.alloc (.cells #[.int .i64 (cutF J).kind, .int .i64 (cutF J).cap, .slice F1 (cutF J).items.length f1, .slice F2 (cutF J).cost.length f2, .int .i64 (cutF J).size, .slice F3 (cutF J).sets.length f3] 33)).alloc (.cells #[.int .i64 (cutF J).kind, .int .i64 (cutF J).cap, .slice G1 (cutF J).items.length g1, .slice G2 (cutF J).cost.length g2, .int .i64 (cutF J).size, .slice G3 (cutF J).sets.length g3] 36)) := bl_alloc (bl_alloc (Below.refl _ _) _) _
  have ab : Below w1.heap.size w1 ((w1.alloc (.cells #[.int .i64 (cutF I).kind, .int .i64 (cutF I).cap, .slice D1 (cutF I).items.length d1, .slice D2 (cutF I).cost.length d2, .int .i64 (cutF I).size, .slice D3 (cutF I).sets.length d3] 33)).alloc (.cells #[.int .i64 (cutF I).kind, .int .i64 (cutF I).cap, .slice E1 (cutF I).items.length e1, .slice E2 (cutF I).cost.length e2, .int .i64 (cutF I).size, .slice E3 (cutF I).sets.length e3] 36)) := bl_alloc (bl_alloc (Below.refl _ _) _) _
  have bl4 : Below w.heap.size w ((w2.alloc (.cells #[.int .i64 (cutF J).kind, .int .i64 (cutF J).cap, .slice F1 (cutF J).items.length f1, .slice F2 (cutF J).cost.length f2, .int .i64 (cutF J).size, .slice F3 (cutF J).sets.length f3] 33)).alloc (.cells #[.int .i64 (cutF J).kind, .int .i64 (cutF J).cap, .slice G1 (cutF J).items.length g1, .slice G2 (cutF J).cost.length g2, .int .i64 (cutF J).size, .slice G3 (cutF J).sets.length g3] 36)) := bl_step bl3 nb
  have H0 : EqR ((w2.alloc (.cells #[.int .i64 (cutF J).kind, .int .i64 (cutF J).cap, .slice F1 (cutF J).items.length f1, .slice F2 (cutF J).cost.length f2, .int .i64 (cutF J).size, .slice F3 (cutF J).sets.length f3] 33)).alloc (.cells #[.int .i64 (cutF J).kind, .int .i64 (cutF J).cap, .slice G1 (cutF J).items.length g1, .slice G2 (cutF J).cost.length g2, .int .i64 (cutF J).size, .slice G3 (cutF J).sets.length g3] 36)) w1.heap.size w2.heap.size (cutF I) (cutF J) D1 D2 D3 E1 E2 E3 F1 F2 F3 G1 G2 G3 d1 d2 d3 e1 e2 e3 f1 f2 f3 g1 g2 g3 :=
    ⟨(((Blk.new _ _ _).alloc _).below hb2).below nb, ((Blk.new' (by simp) _ _).below hb2).below nb, (Blk.new _ _ _).alloc _, Blk.new' (by simp) _ _, ⟨_, ((OA.out.below ab).below hb2).below nb⟩, ⟨_, ((OB.out.below ab).below hb2).below nb⟩, ⟨_, OC.out.below nb⟩, ⟨_, OD.out.below nb⟩, HN.out.below bl4⟩
  clear hz OA OB OC OD HN nb ab bl3 bl2 bl1 bl0 hb1 hb2 By By2
  generalize (w2.alloc (.cells #[.int .i64 (cutF J).kind, .int .i64 (cutF J).cap, .slice F1 (cutF J).items.length f1, .slice F2 (cutF J).cost.length f2, .int .i64 (cutF J).size, .slice F3 (cutF J).sets.length f3] 33)).alloc (.cells #[.int .i64 (cutF J).kind, .int .i64 (cutF J).cap, .slice G1 (cutF J).items.length g1, .slice G2 (cutF J).cost.length g2, .int .i64 (cutF J).size, .slice G3 (cutF J).sets.length g3] 36) = w0 at H0 bl4 ⊢
  refine wp_region_pre (S := fun w' => w'.cell? ⟨w1.heap.size, 0, none⟩ = some (.int .i64 (cutF I).kind) ∧ w'.cell? ⟨w1.heap.size, 1, none⟩ = some (.int .i64 (cutF I).cap) ∧ w'.cell? ⟨w1.heap.size, 2, none⟩ = some (.slice D1 (cutF I).items.length d1) ∧ w'.cell? ⟨w1.heap.size, 3, none⟩ = some (.slice D2 (cutF I).cost.length d2) ∧ w'.cell? ⟨w1.heap.size, 4, none⟩ = some (.int .i64 (cutF I).size) ∧ w'.cell? ⟨w1.heap.size, 5, none⟩ = some (.slice D3 (cutF I).sets.length d3) ∧ w'.cell? ⟨w1.heap.size + 1, 0, none⟩ = some (.int .i64 (cutF I).kind) ∧ w'.cell? ⟨w1.heap.size + 1, 1, none⟩ = some (.int .i64 (cutF I).cap) ∧ w'.cell? ⟨w1.heap.size + 1, 2, none⟩ = some (.slice E1 (cutF I).items.length e1) ∧ w'.cell? ⟨w1.heap.size + 1, 3, none⟩ = some (.slice E2 (cutF I).cost.length e2) ∧ w'.cell? ⟨w1.heap.size + 1, 4, none⟩ = some (.int .i64 (cutF I).size) ∧ w'.cell? ⟨w1.heap.size + 1, 5, none⟩ = some (.slice E3 (cutF I).sets.length e3) ∧ w'.cell? ⟨w2.heap.size, 0, none⟩ = some (.int .i64 (cutF J).kind) ∧ w'.cell? ⟨w2.heap.size, 1, none⟩ = some (.int .i64 (cutF J).cap) ∧ w'.cell? ⟨w2.heap.size, 2, none⟩ = some (.slice F1 (cutF J).items.length f1) ∧ w'.cell? ⟨w2.heap.size, 3, none⟩ = some (.slice F2 (cutF J).cost.length f2) ∧ w'.cell? ⟨w2.heap.size, 4, none⟩ = some (.int .i64 (cutF J).size) ∧ w'.cell? ⟨w2.heap.size, 5, none⟩ = some (.slice F3 (cutF J).sets.length f3) ∧ w'.cell? ⟨w2.heap.size + 1, 0, none⟩ = some (.int .i64 (cutF J).kind) ∧ w'.cell? ⟨w2.heap.size + 1, 1, none⟩ = some (.int .i64 (cutF J).cap) ∧ w'.cell? ⟨w2.heap.size + 1, 2, none⟩ = some (.slice G1 (cutF J).items.length g1) ∧ w'.cell? ⟨w2.heap.size + 1, 3, none⟩ = some (.slice G2 (cutF J).cost.length g2) ∧ w'.cell? ⟨w2.heap.size + 1, 4, none⟩ = some (.int .i64 (cutF J).size) ∧ w'.cell? ⟨w2.heap.size + 1, 5, none⟩ = some (.slice G3 (cutF J).sets.length g3)) 22 (by kernel_rfl) (by kernel_rfl) ?_ (fun hH0 => ?_)
  · exact ⟨(H0.drew.a.cell 0).trans rfl, (H0.drew.a.cell 1).trans rfl, (H0.drew.a.cell 2).trans rfl, (H0.drew.a.cell 3).trans rfl, (H0.drew.a.cell 4).trans rfl, (H0.drew.a.cell 5).trans rfl, (H0.drew.b.cell 0).trans rfl, (H0.drew.b.cell 1).trans rfl, (H0.drew.b.cell 2).trans rfl, (H0.drew.b.cell 3).trans rfl, (H0.drew.b.cell 4).trans rfl, (H0.drew.b.cell 5).trans rfl, (H0.drew.c.cell 0).trans rfl, (H0.drew.c.cell 1).trans rfl, (H0.drew.c.cell 2).trans rfl, (H0.drew.c.cell 3).trans rfl, (H0.drew.c.cell 4).trans rfl, (H0.drew.c.cell 5).trans rfl, (H0.drew.d.cell 0).trans rfl, (H0.drew.d.cell 1).trans rfl, (H0.drew.d.cell 2).trans rfl, (H0.drew.d.cell 3).trans rfl, (H0.drew.d.cell 4).trans rfl, (H0.drew.d.cell 5).trans rfl⟩
  refine PreG.ready (rs := [0]) (by kernel_rfl) (by kernel_rfl) ?_
  refine AllPre.cons rfl (fun K hK => ?_) ?_
  · go_simp
    (with_reducible refine (wakes_any _ H0.drew.nm).mono ?_); rintro e X24 ⟨rfl, hb24⟩
    go_wp2_with fail
    have HA24 := H0.drew.below hb24
    have bl24 := bl_step (bl_drew bl4) hb24
    refine hK.out _ _ ?_ (fun hH1 => ?_)
    · exact ⟨(HA24.a.cell 0).trans rfl, (HA24.a.cell 1).trans rfl, (HA24.a.cell 2).trans rfl, (HA24.a.cell 3).trans rfl, (HA24.a.cell 4).trans rfl, (HA24.a.cell 5).trans rfl, (HA24.b.cell 0).trans rfl, (HA24.b.cell 1).trans rfl, (HA24.b.cell 2).trans rfl, (HA24.b.cell 3).trans rfl, (HA24.b.cell 4).trans rfl, (HA24.b.cell 5).trans rfl, (HA24.c.cell 0).trans rfl, (HA24.c.cell 1).trans rfl, (HA24.c.cell 2).trans rfl, (HA24.c.cell 3).trans rfl, (HA24.c.cell 4).trans rfl, (HA24.c.cell 5).trans rfl, (HA24.d.cell 0).trans rfl, (HA24.d.cell 1).trans rfl, (HA24.d.cell 2).trans rfl, (HA24.d.cell 3).trans rfl, (HA24.d.cell 4).trans rfl, (HA24.d.cell 5).trans rfl⟩
    clear hK K hH0
    try simp only [Act.put, List.getElem_toArray, List.getElem_cons_zero, List.getElem_cons_succ, List.setIfInBounds_toArray, List.set_cons_zero, List.set_cons_succ]
    refine PreG.take (i := 1) (v := ?vv25) rfl (by kernel_rfl) (by kernel_rfl) (fun _ _ _ h => h) (Or.inl ⟨by rfl, ?hy25⟩) (by assumption) ?rest25
    case hy25 => intro w hSw; (try dsimp only at hSw); first | (go_simp; done) | (go_simp; with_reducible rfl)
    try simp only [Act.put, List.getElem_toArray, List.getElem_cons_zero, List.getElem_cons_succ, List.setIfInBounds_toArray, List.set_cons_zero, List.set_cons_succ]
    refine PreG.take (i := 2) (v := ?vv26) rfl (by kernel_rfl) (by kernel_rfl) (fun _ _ _ h => h) (Or.inl ⟨by rfl, ?hy26⟩) (by assumption) ?rest26
    case hy26 => intro w hSw; (try dsimp only at hSw); first | (go_simp; done) | (go_simp; with_reducible rfl)
    try simp only [Act.put, List.getElem_toArray, List.getElem_cons_zero, List.getElem_cons_succ, List.setIfInBounds_toArray, List.set_cons_zero, List.set_cons_succ]
    refine PreG.take (i := 3) (v := ?vv27) rfl (by kernel_rfl) (by kernel_rfl) (fun _ _ _ h => h) (Or.inl ⟨by rfl, ?hy27⟩) (by assumption) ?rest27
    case hy27 => intro w hSw; (try dsimp only at hSw); first | (go_simp; done) | (go_simp; with_reducible rfl)
    try simp only [Act.put, List.getElem_toArray, List.getElem_cons_zero, List.getElem_cons_succ, List.setIfInBounds_toArray, List.set_cons_zero, List.set_cons_succ]
    refine PreG.take (i := 5) (v := ?vv28) rfl (by kernel_rfl) (by kernel_rfl) (fun _ _ _ h => h) (Or.inl ⟨by rfl, ?hy28⟩) (by assumption) ?rest28
    case hy28 => intro w hSw; (try dsimp only at hSw); first | (go_simp; done) | (go_simp; with_reducible rfl)
    try simp only [Act.put, List.getElem_toArray, List.getElem_cons_zero, List.getElem_cons_succ, List.setIfInBounds_toArray, List.set_cons_zero, List.set_cons_succ]
    refine PreG.take (i := 6) (v := ?vv29) rfl (by kernel_rfl) (by kernel_rfl) (fun _ _ _ h => h) (Or.inl ⟨by rfl, ?hy29⟩) (by assumption) ?rest29
    case hy29 => intro w hSw; (try dsimp only at hSw); first | (go_simp; done) | (go_simp; with_reducible rfl)
    try simp only [Act.put, List.getElem_toArray, List.getElem_cons_zero, List.getElem_cons_succ, List.setIfInBounds_toArray, List.set_cons_zero, List.set_cons_succ]
    refine PreG.ready (rs := [4]) (by kernel_rfl) (by kernel_rfl) ?_
    refine AllPre.cons rfl (fun K hK => ?_) ?_
    · go_simp
      (with_reducible refine (eq_ac HA24 HZ).mono ?_); rintro e X30 ⟨rfl, hb30⟩
      go_wp2_with fail
      have HA30 := HA24.below hb30
      have bl30 := bl_step bl24 hb30
      refine hK.out _ _ ?_ (fun hH2 => ?_)
      · exact ⟨(HA30.a.cell 0).trans rfl, (HA30.a.cell 1).trans rfl, (HA30.a.cell 2).trans rfl, (HA30.a.cell 3).trans rfl, (HA30.a.cell 4).trans rfl, (HA30.a.cell 5).trans rfl, (HA30.b.cell 0).trans rfl, (HA30.b.cell 1).trans rfl, (HA30.b.cell 2).trans rfl, (HA30.b.cell 3).trans rfl, (HA30.b.cell 4).trans rfl, (HA30.b.cell 5).trans rfl, (HA30.c.cell 0).trans rfl, (HA30.c.cell 1).trans rfl, (HA30.c.cell 2).trans rfl, (HA30.c.cell 3).trans rfl, (HA30.c.cell 4).trans rfl, (HA30.c.cell 5).trans rfl, (HA30.d.cell 0).trans rfl, (HA30.d.cell 1).trans rfl, (HA30.d.cell 2).trans rfl, (HA30.d.cell 3).trans rfl, (HA30.d.cell 4).trans rfl, (HA30.d.cell 5).trans rfl⟩
      clear hK K hH1
      try simp only [Act.put, List.getElem_toArray, List.getElem_cons_zero, List.getElem_cons_succ, List.setIfInBounds_toArray, List.set_cons_zero, List.set_cons_succ]
      refine PreG.ready (rs := [7]) (by kernel_rfl) (by kernel_rfl) ?_
      refine AllPre.cons rfl (fun K hK => ?_) ?_
      · go_simp
        (with_reducible refine (eq_bd HA30 HZ).mono ?_); rintro e X31 ⟨rfl, hb31⟩
        go_wp2_with fail
        have HA31 := HA30.below hb31
        have bl31 := bl_step bl30 hb31
        refine hK.out _ _ ?_ (fun hH3 => ?_)
        · exact ⟨(HA31.a.cell 0).trans rfl, (HA31.a.cell 1).trans rfl, (HA31.a.cell 2).trans rfl, (HA31.a.cell 3).trans rfl, (HA31.a.cell 4).trans rfl, (HA31.a.cell 5).trans rfl, (HA31.b.cell 0).trans rfl, (HA31.b.cell 1).trans rfl, (HA31.b.cell 2).trans rfl, (HA31.b.cell 3).trans rfl, (HA31.b.cell 4).trans rfl, (HA31.b.cell 5).trans rfl, (HA31.c.cell 0).trans rfl, (HA31.c.cell 1).trans rfl, (HA31.c.cell 2).trans rfl, (HA31.c.cell 3).trans rfl, (HA31.c.cell 4).trans rfl, (HA31.c.cell 5).trans rfl, (HA31.d.cell 0).trans rfl, (HA31.d.cell 1).trans rfl, (HA31.d.cell 2).trans rfl, (HA31.d.cell 3).trans rfl, (HA31.d.cell 4).trans rfl, (HA31.d.cell 5).trans rfl⟩
        clear hK K hH2
        try simp only [Act.put, List.getElem_toArray, List.getElem_cons_zero, List.getElem_cons_succ, List.setIfInBounds_toArray, List.set_cons_zero, List.set_cons_succ]
        refine PreG.take (i := 8) (v := ?vv32) rfl (by kernel_rfl) (by kernel_rfl) (fun _ _ _ h => h) (Or.inl ⟨by rfl, ?hy32⟩) (by assumption) ?rest32
        case hy32 => intro w hSw; (try dsimp only at hSw); first | (go_simp; done) | (go_simp; with_reducible rfl)
        try simp only [Act.put, List.getElem_toArray, List.getElem_cons_zero, List.getElem_cons_succ, List.setIfInBounds_toArray, List.set_cons_zero, List.set_cons_succ]
        refine PreG.take (i := 9) (v := ?vv33) rfl (by kernel_rfl) (by kernel_rfl) (fun _ _ _ h => h) (Or.inl ⟨by rfl, ?hy33⟩) (by assumption) ?rest33
        case hy33 => intro w hSw; (try dsimp only at hSw); first | (go_simp; done) | (go_simp; with_reducible rfl)
        try simp only [Act.put, List.getElem_toArray, List.getElem_cons_zero, List.getElem_cons_succ, List.setIfInBounds_toArray, List.set_cons_zero, List.set_cons_succ]
        refine PreG.take (i := 10) (v := ?vv34) rfl (by kernel_rfl) (by kernel_rfl) (fun _ _ _ h => h) (Or.inl ⟨by rfl, ?hy34⟩) (by assumption) ?rest34
        case hy34 => intro w hSw; (try dsimp only at hSw); first | (go_simp; done) | (go_simp; with_reducible rfl)
        try simp only [Act.put, List.getElem_toArray, List.getElem_cons_zero, List.getElem_cons_succ, List.setIfInBounds_toArray, List.set_cons_zero, List.set_cons_succ]
        refine PreG.take (i := 11) (v := ?vv35) rfl (by kernel_rfl) (by kernel_rfl) (fun _ _ _ h => h) (Or.inl ⟨by rfl, ?hy35⟩) (by assumption) ?rest35
        case hy35 => intro w hSw; (try dsimp only at hSw); first | (go_simp; done) | (go_simp; with_reducible rfl)
        try simp only [Act.put, List.getElem_toArray, List.getElem_cons_zero, List.getElem_cons_succ, List.setIfInBounds_toArray, List.set_cons_zero, List.set_cons_succ]
        refine PreG.take (i := 12) (v := ?vv36) rfl (by kernel_rfl) (by kernel_rfl) (fun _ _ _ h => h) (Or.inl ⟨by rfl, ?hy36⟩) (by assumption) ?rest36
        case hy36 => intro w hSw; (try dsimp only at hSw); first | (go_simp; done) | (go_simp; with_reducible rfl)
        try simp only [Act.put, List.getElem_toArray, List.getElem_cons_zero, List.getElem_cons_succ, List.setIfInBounds_toArray, List.set_cons_zero, List.set_cons_succ]
        refine PreG.ready (rs := [13]) (by kernel_rfl) (by kernel_rfl) ?_
        refine AllPre.cons rfl (fun K hK => ?_) ?_
        · go_simp
          (with_reducible refine (eq_cp HA31 HL.out).mono ?_); rintro e X37 ⟨K1_37, k1_37, K2_37, k2_37, K3_37, k3_37, rfl, ow37, hb37⟩
          go_wp2_with fail
          have HA37 := HA31.below hb37
          have bl37 := bl_step bl31 hb37
          refine hK.out _ _ ?_ (fun hH4 => ?_)
          · exact ⟨(HA37.a.cell 0).trans rfl, (HA37.a.cell 1).trans rfl, (HA37.a.cell 2).trans rfl, (HA37.a.cell 3).trans rfl, (HA37.a.cell 4).trans rfl, (HA37.a.cell 5).trans rfl, (HA37.b.cell 0).trans rfl, (HA37.b.cell 1).trans rfl, (HA37.b.cell 2).trans rfl, (HA37.b.cell 3).trans rfl, (HA37.b.cell 4).trans rfl, (HA37.b.cell 5).trans rfl, (HA37.c.cell 0).trans rfl, (HA37.c.cell 1).trans rfl, (HA37.c.cell 2).trans rfl, (HA37.c.cell 3).trans rfl, (HA37.c.cell 4).trans rfl, (HA37.c.cell 5).trans rfl, (HA37.d.cell 0).trans rfl, (HA37.d.cell 1).trans rfl, (HA37.d.cell 2).trans rfl, (HA37.d.cell 3).trans rfl, (HA37.d.cell 4).trans rfl, (HA37.d.cell 5).trans rfl⟩
          clear hK K hH3
          try simp only [Act.put, List.getElem_toArray, List.getElem_cons_zero, List.getElem_cons_succ, List.setIfInBounds_toArray, List.set_cons_zero, List.set_cons_succ]
          refine PreG.ready (rs := [14]) (by kernel_rfl) (by kernel_rfl) ?_
          refine AllPre.cons rfl (fun K hK => ?_) ?_
          · go_simp
            (with_reducible refine (eq_ak HA37 ow37).mono ?_); rintro e X38 ⟨rfl, hb38⟩
            go_wp2_with fail
            have HA38 := HA37.below hb38
            have bl38 := bl_step bl37 hb38
            refine hK.out _ _ ?_ (fun hH5 => ?_)
            · exact ⟨(HA38.a.cell 0).trans rfl, (HA38.a.cell 1).trans rfl, (HA38.a.cell 2).trans rfl, (HA38.a.cell 3).trans rfl, (HA38.a.cell 4).trans rfl, (HA38.a.cell 5).trans rfl, (HA38.b.cell 0).trans rfl, (HA38.b.cell 1).trans rfl, (HA38.b.cell 2).trans rfl, (HA38.b.cell 3).trans rfl, (HA38.b.cell 4).trans rfl, (HA38.b.cell 5).trans rfl, (HA38.c.cell 0).trans rfl, (HA38.c.cell 1).trans rfl, (HA38.c.cell 2).trans rfl, (HA38.c.cell 3).trans rfl, (HA38.c.cell 4).trans rfl, (HA38.c.cell 5).trans rfl, (HA38.d.cell 0).trans rfl, (HA38.d.cell 1).trans rfl, (HA38.d.cell 2).trans rfl, (HA38.d.cell 3).trans rfl, (HA38.d.cell 4).trans rfl, (HA38.d.cell 5).trans rfl⟩
            clear hK K hH4
            try simp only [Act.put, List.getElem_toArray, List.getElem_cons_zero, List.getElem_cons_succ, List.setIfInBounds_toArray, List.set_cons_zero, List.set_cons_succ]
            refine PreG.take (i := 15) (v := ?vv39) rfl (by kernel_rfl) (by kernel_rfl) (fun _ _ _ h => h) (Or.inl ⟨by rfl, ?hy39⟩) (by assumption) ?rest39
            case hy39 => intro w hSw; (try dsimp only at hSw); first | (go_simp; done) | (go_simp; with_reducible rfl)
            try simp only [Act.put, List.getElem_toArray, List.getElem_cons_zero, List.getElem_cons_succ, List.setIfInBounds_toArray, List.set_cons_zero, List.set_cons_succ]
            refine PreG.take (i := 16) (v := ?vv40) rfl (by kernel_rfl) (by kernel_rfl) (fun _ _ _ h => h) (Or.inl ⟨by rfl, ?hy40⟩) (by assumption) ?rest40
            case hy40 => intro w hSw; (try dsimp only at hSw); first | (go_simp; done) | (go_simp; with_reducible rfl)
            try simp only [Act.put, List.getElem_toArray, List.getElem_cons_zero, List.getElem_cons_succ, List.setIfInBounds_toArray, List.set_cons_zero, List.set_cons_succ]
            refine PreG.take (i := 17) (v := ?vv41) rfl (by kernel_rfl) (by kernel_rfl) (fun _ _ _ h => h) (Or.inl ⟨by rfl, ?hy41⟩) (by assumption) ?rest41
            case hy41 => intro w hSw; (try dsimp only at hSw); first | (go_simp; done) | (go_simp; with_reducible rfl)
            try simp only [Act.put, List.getElem_toArray, List.getElem_cons_zero, List.getElem_cons_succ, List.setIfInBounds_toArray, List.set_cons_zero, List.set_cons_succ]
            refine PreG.take (i := 19) (v := ?vv42) rfl (by kernel_rfl) (by kernel_rfl) (fun _ _ _ h => h) (Or.inl ⟨by rfl, ?hy42⟩) (by assumption) ?rest42
            case hy42 => intro w hSw; (try dsimp only at hSw); first | (go_simp; done) | (go_simp; with_reducible rfl)
            try simp only [Act.put, List.getElem_toArray, List.getElem_cons_zero, List.getElem_cons_succ, List.setIfInBounds_toArray, List.set_cons_zero, List.set_cons_succ]
            refine PreG.ready (rs := [18]) (by kernel_rfl) (by kernel_rfl) ?_
            refine AllPre.cons rfl (fun K hK => ?_) ?_
            · go_simp
              (with_reducible refine (eq_cp HA38 HL.out).mono ?_); rintro e X43 ⟨K1_43, k1_43, K2_43, k2_43, K3_43, k3_43, rfl, ow43, hb43⟩
              go_wp2_with fail
              have HA43 := HA38.below hb43
              have bl43 := bl_step bl38 hb43
              refine hK.out _ _ ?_ (fun hH6 => ?_)
              · exact ⟨(HA43.a.cell 0).trans rfl, (HA43.a.cell 1).trans rfl, (HA43.a.cell 2).trans rfl, (HA43.a.cell 3).trans rfl, (HA43.a.cell 4).trans rfl, (HA43.a.cell 5).trans rfl, (HA43.b.cell 0).trans rfl, (HA43.b.cell 1).trans rfl, (HA43.b.cell 2).trans rfl, (HA43.b.cell 3).trans rfl, (HA43.b.cell 4).trans rfl, (HA43.b.cell 5).trans rfl, (HA43.c.cell 0).trans rfl, (HA43.c.cell 1).trans rfl, (HA43.c.cell 2).trans rfl, (HA43.c.cell 3).trans rfl, (HA43.c.cell 4).trans rfl, (HA43.c.cell 5).trans rfl, (HA43.d.cell 0).trans rfl, (HA43.d.cell 1).trans rfl, (HA43.d.cell 2).trans rfl, (HA43.d.cell 3).trans rfl, (HA43.d.cell 4).trans rfl, (HA43.d.cell 5).trans rfl⟩
              clear hK K hH5
              try simp only [Act.put, List.getElem_toArray, List.getElem_cons_zero, List.getElem_cons_succ, List.setIfInBounds_toArray, List.set_cons_zero, List.set_cons_succ]
              refine PreG.ready (rs := [20]) (by kernel_rfl) (by kernel_rfl) ?_
              refine AllPre.cons rfl (fun K hK => ?_) ?_
              · go_simp
                (with_reducible refine (eq_ka HA43 ow43).mono ?_); rintro e X44 ⟨rfl, hb44⟩
                go_wp2_with fail
                have HA44 := HA43.below hb44
                have bl44 := bl_step bl43 hb44
                refine hK.out _ _ ?_ (fun hH7 => ?_)
                · exact ⟨(HA44.a.cell 0).trans rfl, (HA44.a.cell 1).trans rfl, (HA44.a.cell 2).trans rfl, (HA44.a.cell 3).trans rfl, (HA44.a.cell 4).trans rfl, (HA44.a.cell 5).trans rfl, (HA44.b.cell 0).trans rfl, (HA44.b.cell 1).trans rfl, (HA44.b.cell 2).trans rfl, (HA44.b.cell 3).trans rfl, (HA44.b.cell 4).trans rfl, (HA44.b.cell 5).trans rfl, (HA44.c.cell 0).trans rfl, (HA44.c.cell 1).trans rfl, (HA44.c.cell 2).trans rfl, (HA44.c.cell 3).trans rfl, (HA44.c.cell 4).trans rfl, (HA44.c.cell 5).trans rfl, (HA44.d.cell 0).trans rfl, (HA44.d.cell 1).trans rfl, (HA44.d.cell 2).trans rfl, (HA44.d.cell 3).trans rfl, (HA44.d.cell 4).trans rfl, (HA44.d.cell 5).trans rfl⟩
                clear hK K hH6
                try simp only [Act.put, List.getElem_toArray, List.getElem_cons_zero, List.getElem_cons_succ, List.setIfInBounds_toArray, List.set_cons_zero, List.set_cons_succ]
                refine PreG.take (i := 21) (v := ?vv45) rfl (by kernel_rfl) (by kernel_rfl) (fun _ _ _ h => h) (Or.inl ⟨by rfl, ?hy45⟩) (by assumption) ?rest45
                case hy45 => intro w hSw; (try dsimp only at hSw); first | (go_simp; done) | (go_simp; with_reducible rfl)
                try simp only [Act.put, List.getElem_toArray, List.getElem_cons_zero, List.getElem_cons_succ, List.setIfInBounds_toArray, List.set_cons_zero, List.set_cons_succ]
                refine PreG.done (by kernel_rfl) ?_
                simp only [List.drop_succ_cons, List.drop_zero]
                clear hH7
                go_wp2
                go_ret
                exact ⟨rfl, bl44⟩
              exact AllPre.nil
            exact AllPre.nil
          exact AllPre.nil
        exact AllPre.nil
      exact AllPre.nil
    exact AllPre.nil
  exact AllPre.nil
end Go.Proofs.YteddbdmddgmicaaDoor
