/- The walk of InstApart. -/
import Derived.Test.YteddbdmddgmicaaDoorInstEqualW
import Derived.Test.YteddbdmddgmicaaDoorIH
import Derived.Test.YteddbdmddgmicaaDoorISh
import Derived.LoopTactic
namespace Go.Proofs.YteddbdmddgmicaaDoor
open Go.RowKit
set_option linter.unusedVariables false
set_option linter.unusedSimpArgs false
set_option maxRecDepth 100000

theorem len_in {n c : Nat} (h : n ≤ c ∧ c ≤ 9223372036854775807) : (n : Int) ≤ 9223372036854775807 := by omega
theorem wrap_in64 (n : Int) : InI (IntKind.i64.wrap n) := by
  rw [IntKind.wrap_i64]
  exact ⟨by omega, by omega⟩
theorem xor_in {x : Int} (h : InI x) : InI (bits .xor .i64 x 1) := by
  unfold bits
  exact wrap_in64 _
/-- What stands at the end. -/
structure ApR (wr : World) (ga gd : Nat) (I : IData) (D1 D2 D3 E1 E2 E3 F1 F2 F3 : Option Addr) (d1 d2 d3 e1 e2 e3 f1 f2 f3 : Nat) : Prop where
  a : Blk wr ga 33 #[.int .i64 I.kind, .int .i64 I.cap, .slice D1 I.items.length d1, .slice D2 I.cost.length d2, .int .i64 I.size, .slice D3 I.sets.length d3]
  b : Blk wr (ga + 1) 36 #[.int .i64 I.kind, .int .i64 I.cap, .slice E1 I.items.length e1, .slice E2 I.cost.length e2, .int .i64 I.size, .slice E3 I.sets.length e3]
  d : Blk wr gd 33 #[.int .i64 I.kind, .int .i64 I.cap, .slice F1 I.items.length f1, .slice F2 I.cost.length f2, .int .i64 I.size, .slice F3 I.sets.length f3]
  oa : ∃ k, OwnI wr k 52 56 I D1 d1 D2 d2 D3 d3
  ob : ∃ k, OwnI wr k 60 62 I E1 e1 E2 e2 E3 e3
  od : ∃ k, OwnI wr k 52 56 I F1 f1 F2 f2 F3 f3
  nm : NamesW wr
section
variable {w w' : World} {ga gd : Nat} {I : IData} {D1 D2 D3 E1 E2 E3 F1 F2 F3 : Option Addr} {d1 d2 d3 e1 e2 e3 f1 f2 f3 : Nat}
theorem ApR.below (h : ApR w ga gd I D1 D2 D3 E1 E2 E3 F1 F2 F3 d1 d2 d3 e1 e2 e3 f1 f2 f3) (hb : Below w.heap.size w w') : ApR w' ga gd I D1 D2 D3 E1 E2 E3 F1 F2 F3 d1 d2 d3 e1 e2 e3 f1 f2 f3 := by
  obtain ⟨_, oa⟩ := h.oa
  obtain ⟨_, ob⟩ := h.ob
  obtain ⟨_, od⟩ := h.od
  exact ⟨h.a.below hb, h.b.below hb, h.d.below hb, ⟨_, oa.below hb⟩, ⟨_, ob.below hb⟩, ⟨_, od.below hb⟩, h.nm.below hb⟩
theorem ApR.drew (h : ApR w ga gd I D1 D2 D3 E1 E2 E3 F1 F2 F3 d1 d2 d3 e1 e2 e3 f1 f2 f3) : ApR w.drew ga gd I D1 D2 D3 E1 E2 E3 F1 F2 F3 d1 d2 d3 e1 e2 e3 f1 f2 f3 := h.below (bl_drew (Below.refl _ _))
theorem ap_eq (h : ApR w ga gd I D1 D2 D3 E1 E2 E3 F1 F2 F3 d1 d2 d3 e1 e2 e3 f1 f2 f3) : Calls Tryd.prog 15 #[.agg #[.int .i64 I.kind, .int .i64 I.cap, .slice D1 I.items.length d1, .slice D2 I.cost.length d2, .int .i64 I.size, .slice D3 I.sets.length d3], .agg #[.int .i64 I.kind, .int .i64 I.cap, .slice F1 I.items.length f1, .slice F2 I.cost.length f2, .int .i64 I.size, .slice F3 I.sets.length f3]] w fun e w' => e = .returned (.bool true) ∧ Below w.heap.size w w' := by
  obtain ⟨_, oa⟩ := h.oa
  obtain ⟨_, od⟩ := h.od
  rw [← eqD_refl I]
  exact equal_any I I _ _ _ _ _ _ _ _ _ _ _ _ w oa.inst od.inst
theorem ap_bc (h : ApR w ga gd I D1 D2 D3 E1 E2 E3 F1 F2 F3 d1 d2 d3 e1 e2 e3 f1 f2 f3) {z : Int} (hz : Hid (checkR I = z)) : Calls Tryd.prog 10 #[.agg #[.int .i64 I.kind, .int .i64 I.cap, .slice E1 I.items.length e1, .slice E2 I.cost.length e2, .int .i64 I.size, .slice E3 I.sets.length e3]] w fun e w' => e = .returned (.int .i64 z) ∧ Below w.heap.size w w' := by
  obtain ⟨_, ob⟩ := h.ob
  rw [← hz.out]
  exact bcheck_any I _ _ _ _ _ _ w ob.inst
theorem ap_ck (h : ApR w ga gd I D1 D2 D3 E1 E2 E3 F1 F2 F3 d1 d2 d3 e1 e2 e3 f1 f2 f3) {z : Int} (hz : Hid (checkR I = z)) : Calls Tryd.prog 9 #[.agg #[.int .i64 I.kind, .int .i64 I.cap, .slice D1 I.items.length d1, .slice D2 I.cost.length d2, .int .i64 I.size, .slice D3 I.sets.length d3]] w fun e w' => e = .returned (.int .i64 z) ∧ Below w.heap.size w w' := by
  obtain ⟨_, oa⟩ := h.oa
  rw [← hz.out]
  exact check_any I _ _ _ _ _ _ w oa.inst
end
set_option maxHeartbeats 12800000 in
theorem InstApart_walk (I : IData) (A1 A2 A3 : Option Addr) (a1 a2 a3 : Nat) (w : World) (hw : NamesW w) (hI : InstAt w w.heap.size I A1 a1 A2 a2 A3 a3) :
    Calls Tryd.prog 5 #[.agg #[.int .i64 I.kind, .int .i64 I.cap, .slice A1 I.items.length a1, .slice A2 I.cost.length a2, .int .i64 I.size, .slice A3 I.sets.length a3]] w fun e w' => e = .returned (.bool true) ∧ Below w.heap.size w w' := by
  have HN := Lib.hid hw
  have H1 := Lib.hid (fun w' (hb : Below w.heap.size w w') => insts_c I A1 A2 A3 a1 a2 a3 w' (hI.below hb))
  have HL := Lib.hid (cutF_len I)
  obtain ⟨z, hz⟩ : ∃ z, checkR (cutF I) = z := ⟨_, rfl⟩
  have HZ := Lib.hid hz
  clear hw hI hz
  go_enter Tryd.func5, Tryd.ntmps5
  go_wp2_with fail
  have bl0 : Below w.heap.size w (w.alloc (.cells #[.int .i64 I.kind, .int .i64 I.cap, .slice A1 I.items.length a1, .slice A2 I.cost.length a2, .int .i64 I.size, .slice A3 I.sets.length a3] 26)) := bl_alloc (Below.refl _ _) _
  (with_reducible refine (H1.out _ bl0).mono ?_); rintro e v1 ⟨D1, d1, D2, d2, D3, d3, E1, e1, E2, e2, E3, e3, rfl, ⟨oa, ob⟩, hb1⟩
  have bl1 := bl_step bl0 hb1
  have ab : Below v1.heap.size v1 ((v1.alloc (.cells #[.int .i64 (cutF I).kind, .int .i64 (cutF I).cap, .slice D1 (cutF I).items.length d1, .slice D2 (cutF I).cost.length d2, .int .i64 (cutF I).size, .slice D3 (cutF I).sets.length d3] 33)).alloc (.cells #[.int .i64 (cutF I).kind, .int .i64 (cutF I).cap, .slice E1 (cutF I).items.length e1, .slice E2 (cutF I).cost.length e2, .int .i64 (cutF I).size, .slice E3 (cutF I).sets.length e3] 36)) := bl_alloc (bl_alloc (Below.refl _ _) _) _
  have OA := Lib.hid (oa.below ab)
  have OB := Lib.hid (ob.below ab)
  have Bx : Blk ((v1.alloc (.cells #[.int .i64 (cutF I).kind, .int .i64 (cutF I).cap, .slice D1 (cutF I).items.length d1, .slice D2 (cutF I).cost.length d2, .int .i64 (cutF I).size, .slice D3 (cutF I).sets.length d3] 33)).alloc (.cells #[.int .i64 (cutF I).kind, .int .i64 (cutF I).cap, .slice E1 (cutF I).items.length e1, .slice E2 (cutF I).cost.length e2, .int .i64 (cutF I).size, .slice E3 (cutF I).sets.length e3] 36)) w.heap.size 26 #[.int .i64 I.kind, .int .i64 I.cap, .slice A1 I.items.length a1, .slice A2 I.cost.length a2, .int .i64 I.size, .slice A3 I.sets.length a3] := ((Blk.new _ _ _).below hb1).below ab
  have Ba : Blk ((v1.alloc (.cells #[.int .i64 (cutF I).kind, .int .i64 (cutF I).cap, .slice D1 (cutF I).items.length d1, .slice D2 (cutF I).cost.length d2, .int .i64 (cutF I).size, .slice D3 (cutF I).sets.length d3] 33)).alloc (.cells #[.int .i64 (cutF I).kind, .int .i64 (cutF I).cap, .slice E1 (cutF I).items.length e1, .slice E2 (cutF I).cost.length e2, .int .i64 (cutF I).size, .slice E3 (cutF I).sets.length e3] 36)) v1.heap.size 33 #[.int .i64 (cutF I).kind, .int .i64 (cutF I).cap, .slice D1 (cutF I).items.length d1, .slice D2 (cutF I).cost.length d2, .int .i64 (cutF I).size, .slice D3 (cutF I).sets.length d3] := (Blk.new _ _ _).alloc _
  have Bb : Blk ((v1.alloc (.cells #[.int .i64 (cutF I).kind, .int .i64 (cutF I).cap, .slice D1 (cutF I).items.length d1, .slice D2 (cutF I).cost.length d2, .int .i64 (cutF I).size, .slice D3 (cutF I).sets.length d3] 33)).alloc (.cells #[.int .i64 (cutF I).kind, .int .i64 (cutF I).cap, .slice E1 (cutF I).items.length e1, .slice E2 (cutF I).cost.length e2, .int .i64 (cutF I).size, .slice E3 (cutF I).sets.length e3] 36)) (v1.heap.size + 1) 36 #[.int .i64 (cutF I).kind, .int .i64 (cutF I).cap, .slice E1 (cutF I).items.length e1, .slice E2 (cutF I).cost.length e2, .int .i64 (cutF I).size, .slice E3 (cutF I).sets.length e3] := Blk.new' (by simp) _ _
  have bl2 : Below w.heap.size w ((v1.alloc (.cells #[.int .i64 (cutF I).kind, .int .i64 (cutF I).cap, .slice D1 (cutF I).items.length d1, .slice D2 (cutF I).cost.length d2, .int .i64 (cutF I).size, .slice D3 (cutF I).sets.length d3] 33)).alloc (.cells #[.int .i64 (cutF I).kind, .int .i64 (cutF I).cap, .slice E1 (cutF I).items.length e1, .slice E2 (cutF I).cost.length e2, .int .i64 (cutF I).size, .slice E3 (cutF I).sets.length e3] 36)) := bl_step bl1 ab
  clear oa ob hb1 bl1 bl0 ab
  have a_z : v1.heap.size < ((v1.alloc (.cells #[.int .i64 (cutF I).kind, .int .i64 (cutF I).cap, .slice D1 (cutF I).items.length d1, .slice D2 (cutF I).cost.length d2, .int .i64 (cutF I).size, .slice D3 (cutF I).sets.length d3] 33)).alloc (.cells #[.int .i64 (cutF I).kind, .int .i64 (cutF I).cap, .slice E1 (cutF I).items.length e1, .slice E2 (cutF I).cost.length e2, .int .i64 (cutF I).size, .slice E3 (cutF I).sets.length e3] 36)).heap.size := Ba.lt
  have a_c0 : ((v1.alloc (.cells #[.int .i64 (cutF I).kind, .int .i64 (cutF I).cap, .slice D1 (cutF I).items.length d1, .slice D2 (cutF I).cost.length d2, .int .i64 (cutF I).size, .slice D3 (cutF I).sets.length d3] 33)).alloc (.cells #[.int .i64 (cutF I).kind, .int .i64 (cutF I).cap, .slice E1 (cutF I).items.length e1, .slice E2 (cutF I).cost.length e2, .int .i64 (cutF I).size, .slice E3 (cutF I).sets.length e3] 36)).cell? ⟨v1.heap.size, 0, none⟩ = some (.int .i64 (cutF I).kind) := (Ba.cell 0).trans rfl
  have a_f0 := Ba.frozen 0
  have a_c1 : ((v1.alloc (.cells #[.int .i64 (cutF I).kind, .int .i64 (cutF I).cap, .slice D1 (cutF I).items.length d1, .slice D2 (cutF I).cost.length d2, .int .i64 (cutF I).size, .slice D3 (cutF I).sets.length d3] 33)).alloc (.cells #[.int .i64 (cutF I).kind, .int .i64 (cutF I).cap, .slice E1 (cutF I).items.length e1, .slice E2 (cutF I).cost.length e2, .int .i64 (cutF I).size, .slice E3 (cutF I).sets.length e3] 36)).cell? ⟨v1.heap.size, 1, none⟩ = some (.int .i64 (cutF I).cap) := (Ba.cell 1).trans rfl
  have a_f1 := Ba.frozen 1
  have a_c2 : ((v1.alloc (.cells #[.int .i64 (cutF I).kind, .int .i64 (cutF I).cap, .slice D1 (cutF I).items.length d1, .slice D2 (cutF I).cost.length d2, .int .i64 (cutF I).size, .slice D3 (cutF I).sets.length d3] 33)).alloc (.cells #[.int .i64 (cutF I).kind, .int .i64 (cutF I).cap, .slice E1 (cutF I).items.length e1, .slice E2 (cutF I).cost.length e2, .int .i64 (cutF I).size, .slice E3 (cutF I).sets.length e3] 36)).cell? ⟨v1.heap.size, 2, none⟩ = some (.slice D1 (cutF I).items.length d1) := (Ba.cell 2).trans rfl
  have a_f2 := Ba.frozen 2
  have a_c3 : ((v1.alloc (.cells #[.int .i64 (cutF I).kind, .int .i64 (cutF I).cap, .slice D1 (cutF I).items.length d1, .slice D2 (cutF I).cost.length d2, .int .i64 (cutF I).size, .slice D3 (cutF I).sets.length d3] 33)).alloc (.cells #[.int .i64 (cutF I).kind, .int .i64 (cutF I).cap, .slice E1 (cutF I).items.length e1, .slice E2 (cutF I).cost.length e2, .int .i64 (cutF I).size, .slice E3 (cutF I).sets.length e3] 36)).cell? ⟨v1.heap.size, 3, none⟩ = some (.slice D2 (cutF I).cost.length d2) := (Ba.cell 3).trans rfl
  have a_f3 := Ba.frozen 3
  have a_c4 : ((v1.alloc (.cells #[.int .i64 (cutF I).kind, .int .i64 (cutF I).cap, .slice D1 (cutF I).items.length d1, .slice D2 (cutF I).cost.length d2, .int .i64 (cutF I).size, .slice D3 (cutF I).sets.length d3] 33)).alloc (.cells #[.int .i64 (cutF I).kind, .int .i64 (cutF I).cap, .slice E1 (cutF I).items.length e1, .slice E2 (cutF I).cost.length e2, .int .i64 (cutF I).size, .slice E3 (cutF I).sets.length e3] 36)).cell? ⟨v1.heap.size, 4, none⟩ = some (.int .i64 (cutF I).size) := (Ba.cell 4).trans rfl
  have a_f4 := Ba.frozen 4
  have a_c5 : ((v1.alloc (.cells #[.int .i64 (cutF I).kind, .int .i64 (cutF I).cap, .slice D1 (cutF I).items.length d1, .slice D2 (cutF I).cost.length d2, .int .i64 (cutF I).size, .slice D3 (cutF I).sets.length d3] 33)).alloc (.cells #[.int .i64 (cutF I).kind, .int .i64 (cutF I).cap, .slice E1 (cutF I).items.length e1, .slice E2 (cutF I).cost.length e2, .int .i64 (cutF I).size, .slice E3 (cutF I).sets.length e3] 36)).cell? ⟨v1.heap.size, 5, none⟩ = some (.slice D3 (cutF I).sets.length d3) := (Ba.cell 5).trans rfl
  have a_f5 := Ba.frozen 5
  go_wp2_with fail
  generalize (v1.alloc (.cells #[.int .i64 (cutF I).kind, .int .i64 (cutF I).cap, .slice D1 (cutF I).items.length d1, .slice D2 (cutF I).cost.length d2, .int .i64 (cutF I).size, .slice D3 (cutF I).sets.length d3] 33)).alloc (.cells #[.int .i64 (cutF I).kind, .int .i64 (cutF I).cap, .slice E1 (cutF I).items.length e1, .slice E2 (cutF I).cost.length e2, .int .i64 (cutF I).size, .slice E3 (cutF I).sets.length e3] 36) = w1 at OA OB Bx Ba Bb bl2 ⊢
  (with_reducible refine (copy_any (cutF I) _ _ _ _ _ _ _ OA.out.inst HL.out).mono ?_); rintro e v2 ⟨K1, k1, K2, k2, K3, k3, rfl, oc, hb2⟩
  clear a_z a_c0 a_f0 a_c1 a_f1 a_c2 a_f2 a_c3 a_f3 a_c4 a_f4 a_c5 a_f5
  have S := oc.sh (L := w1.heap.size) (by omega)
  have cc := oc.inst
  have hs1 : ((cutF I).items.length : Int) ≤ 9223372036854775807 := len_in cc.n1
  have hs2 : ((cutF I).cost.length : Int) ≤ 9223372036854775807 := len_in cc.n2
  have hs3 : ((cutF I).sets.length : Int) ≤ 9223372036854775807 := len_in cc.n3
  have q1 := cc.n1
  have q2 := cc.n2
  have q3 := cc.n3
  clear cc
  have nb : Below v2.heap.size v2 (v2.alloc (.cells #[.int .i64 (cutF I).kind, .int .i64 (cutF I).cap, .slice K1 (cutF I).items.length k1, .slice K2 (cutF I).cost.length k2, .int .i64 (cutF I).size, .slice K3 (cutF I).sets.length k3] 33)) := bl_alloc (Below.refl _ _) _
  have HC : Hid (ShC (v2.alloc (.cells #[.int .i64 (cutF I).kind, .int .i64 (cutF I).cap, .slice K1 (cutF I).items.length k1, .slice K2 (cutF I).cost.length k2, .int .i64 (cutF I).size, .slice K3 (cutF I).sets.length k3] 33)) w1 v2.heap.size (cutF I).kind (cutF I).cap (cutF I).size K1 K2 K3 (cutF I).items.length (cutF I).cost.length (cutF I).sets.length k1 k2 k3) := Lib.hid
    ⟨Blk.new _ _ _, S.1.keep (Alike2.of_below nb (Nat.le_refl _)), S.2.1.keep (Alike2.of_below nb (Nat.le_refl _)), S.2.2.keep (Alike2.of_below nb (Nat.le_refl _)), bl_step hb2 nb⟩
  clear S oc hb2
  have c0_z : v2.heap.size < (v2.alloc (.cells #[.int .i64 (cutF I).kind, .int .i64 (cutF I).cap, .slice K1 (cutF I).items.length k1, .slice K2 (cutF I).cost.length k2, .int .i64 (cutF I).size, .slice K3 (cutF I).sets.length k3] 33)).heap.size := HC.out.box.lt
  have c0_c0 : (v2.alloc (.cells #[.int .i64 (cutF I).kind, .int .i64 (cutF I).cap, .slice K1 (cutF I).items.length k1, .slice K2 (cutF I).cost.length k2, .int .i64 (cutF I).size, .slice K3 (cutF I).sets.length k3] 33)).cell? ⟨v2.heap.size, 0, none⟩ = some (.int .i64 (cutF I).kind) := (HC.out.box.cell 0).trans rfl
  have c0_f0 := HC.out.box.frozen 0
  have c0_c1 : (v2.alloc (.cells #[.int .i64 (cutF I).kind, .int .i64 (cutF I).cap, .slice K1 (cutF I).items.length k1, .slice K2 (cutF I).cost.length k2, .int .i64 (cutF I).size, .slice K3 (cutF I).sets.length k3] 33)).cell? ⟨v2.heap.size, 1, none⟩ = some (.int .i64 (cutF I).cap) := (HC.out.box.cell 1).trans rfl
  have c0_f1 := HC.out.box.frozen 1
  have c0_c2 : (v2.alloc (.cells #[.int .i64 (cutF I).kind, .int .i64 (cutF I).cap, .slice K1 (cutF I).items.length k1, .slice K2 (cutF I).cost.length k2, .int .i64 (cutF I).size, .slice K3 (cutF I).sets.length k3] 33)).cell? ⟨v2.heap.size, 2, none⟩ = some (.slice K1 (cutF I).items.length k1) := (HC.out.box.cell 2).trans rfl
  have c0_f2 := HC.out.box.frozen 2
  have c0_c3 : (v2.alloc (.cells #[.int .i64 (cutF I).kind, .int .i64 (cutF I).cap, .slice K1 (cutF I).items.length k1, .slice K2 (cutF I).cost.length k2, .int .i64 (cutF I).size, .slice K3 (cutF I).sets.length k3] 33)).cell? ⟨v2.heap.size, 3, none⟩ = some (.slice K2 (cutF I).cost.length k2) := (HC.out.box.cell 3).trans rfl
  have c0_f3 := HC.out.box.frozen 3
  have c0_c4 : (v2.alloc (.cells #[.int .i64 (cutF I).kind, .int .i64 (cutF I).cap, .slice K1 (cutF I).items.length k1, .slice K2 (cutF I).cost.length k2, .int .i64 (cutF I).size, .slice K3 (cutF I).sets.length k3] 33)).cell? ⟨v2.heap.size, 4, none⟩ = some (.int .i64 (cutF I).size) := (HC.out.box.cell 4).trans rfl
  have c0_f4 := HC.out.box.frozen 4
  have c0_c5 : (v2.alloc (.cells #[.int .i64 (cutF I).kind, .int .i64 (cutF I).cap, .slice K1 (cutF I).items.length k1, .slice K2 (cutF I).cost.length k2, .int .i64 (cutF I).size, .slice K3 (cutF I).sets.length k3] 33)).cell? ⟨v2.heap.size, 5, none⟩ = some (.slice K3 (cutF I).sets.length k3) := (HC.out.box.cell 5).trans rfl
  have c0_f5 := HC.out.box.frozen 5
  go_wp2_with fail
  generalize hgc : v2.heap.size = gc at HC c0_z c0_c0 c0_c1 c0_c2 c0_c3 c0_c4 c0_c5 c0_f0 c0_f1 c0_f2 c0_f3 c0_f4 c0_f5 ⊢
  clear nb
  generalize v2.alloc (.cells #[.int .i64 (cutF I).kind, .int .i64 (cutF I).cap, .slice K1 (cutF I).items.length k1, .slice K2 (cutF I).cost.length k2, .int .i64 (cutF I).size, .slice K3 (cutF I).sets.length k3] 33) = u0 at HC c0_z c0_c0 c0_c1 c0_c2 c0_c3 c0_c4 c0_c5 c0_f0 c0_f1 c0_f2 c0_f3 c0_f4 c0_f5 ⊢
  clear hgc
  go_loopw [23] (fun vi wr => ∃ (i : Nat), vi = .int .i64 i ∧ i ≤ (cutF I).items.length ∧ Hid (ShC wr w1 gc (cutF I).kind (cutF I).cap (cutF I).size K1 K2 K3 (cutF I).items.length (cutF I).cost.length (cutF I).sets.length k1 k2 k3)) (fun vi _ => (cutF I).items.length - (intOf vi).toNat)
  case atStart => exact ⟨0, rfl, Nat.zero_le _, HC⟩
  case round =>
    clear HC c0_z c0_c0 c0_f0 c0_c1 c0_f1 c0_c2 c0_f2 c0_c3 c0_f3 c0_c4 c0_f4 c0_c5 c0_f5
    obtain ⟨i, rfl, hi, HC⟩ := hrel
    by_cases hlt : i < (cutF I).items.length
    · obtain ⟨b, o, rfl, hat⟩ := HC.out.p (by omega)
      have IC := Lib.hid (hat i hlt).1
      obtain ⟨_, hb, hf, x, hx, hxi⟩ := (hat i hlt).1
      clear hat
      have i0 : (0 : Int) ≤ (i : Int) := by omega
      have i1 : (i : Int) < ((cutF I).items.length : Int) := by omega
      have c1_z : gc < wr.heap.size := HC.out.box.lt
      have c1_c0 : wr.cell? ⟨gc, 0, none⟩ = some (.int .i64 (cutF I).kind) := (HC.out.box.cell 0).trans rfl
      have c1_f0 := HC.out.box.frozen 0
      have c1_c1 : wr.cell? ⟨gc, 1, none⟩ = some (.int .i64 (cutF I).cap) := (HC.out.box.cell 1).trans rfl
      have c1_f1 := HC.out.box.frozen 1
      have c1_c2 : wr.cell? ⟨gc, 2, none⟩ = some (.slice (some ⟨b, o, none⟩) (cutF I).items.length k1) := (HC.out.box.cell 2).trans rfl
      have c1_f2 := HC.out.box.frozen 2
      have c1_c3 : wr.cell? ⟨gc, 3, none⟩ = some (.slice K2 (cutF I).cost.length k2) := (HC.out.box.cell 3).trans rfl
      have c1_f3 := HC.out.box.frozen 3
      have c1_c4 : wr.cell? ⟨gc, 4, none⟩ = some (.int .i64 (cutF I).size) := (HC.out.box.cell 4).trans rfl
      have c1_f4 := HC.out.box.frozen 4
      have c1_c5 : wr.cell? ⟨gc, 5, none⟩ = some (.slice K3 (cutF I).sets.length k3) := (HC.out.box.cell 5).trans rfl
      have c1_f5 := HC.out.box.frozen 5
      go_wp2_with fail
      go_roundw
      case rel => exact ⟨i + 1, by go_num, by omega, Lib.hid (HC.out.put IC.out (xor_in hxi))⟩
      case measure => simp only [intOf]; omega
    · obtain rfl : i = (cutF I).items.length := by omega
      clear hlt hi
      have c2_z : gc < wr.heap.size := HC.out.box.lt
      have c2_c0 : wr.cell? ⟨gc, 0, none⟩ = some (.int .i64 (cutF I).kind) := (HC.out.box.cell 0).trans rfl
      have c2_f0 := HC.out.box.frozen 0
      have c2_c1 : wr.cell? ⟨gc, 1, none⟩ = some (.int .i64 (cutF I).cap) := (HC.out.box.cell 1).trans rfl
      have c2_f1 := HC.out.box.frozen 1
      have c2_c2 : wr.cell? ⟨gc, 2, none⟩ = some (.slice K1 (cutF I).items.length k1) := (HC.out.box.cell 2).trans rfl
      have c2_f2 := HC.out.box.frozen 2
      have c2_c3 : wr.cell? ⟨gc, 3, none⟩ = some (.slice K2 (cutF I).cost.length k2) := (HC.out.box.cell 3).trans rfl
      have c2_f3 := HC.out.box.frozen 3
      have c2_c4 : wr.cell? ⟨gc, 4, none⟩ = some (.int .i64 (cutF I).size) := (HC.out.box.cell 4).trans rfl
      have c2_f4 := HC.out.box.frozen 4
      have c2_c5 : wr.cell? ⟨gc, 5, none⟩ = some (.slice K3 (cutF I).sets.length k3) := (HC.out.box.cell 5).trans rfl
      have c2_f5 := HC.out.box.frozen 5
      go_wp2_with fail
      go_loopw [39] (fun vi wr => ∃ (i : Nat), vi = .int .i64 i ∧ i ≤ (cutF I).cost.length ∧ Hid (ShC wr w1 gc (cutF I).kind (cutF I).cap (cutF I).size K1 K2 K3 (cutF I).items.length (cutF I).cost.length (cutF I).sets.length k1 k2 k3)) (fun vi _ => (cutF I).cost.length - (intOf vi).toNat)
      case atStart => exact ⟨0, rfl, Nat.zero_le _, HC⟩
      case round =>
        clear HC c2_z c2_c0 c2_f0 c2_c1 c2_f1 c2_c2 c2_f2 c2_c3 c2_f3 c2_c4 c2_f4 c2_c5 c2_f5
        obtain ⟨i, rfl, hi, HC⟩ := hrel
        by_cases hlt : i < (cutF I).cost.length
        · obtain ⟨b, o, rfl, hbg, hat⟩ := HC.out.r (by omega)
          obtain ⟨Q, m, qc, hh, m1, m2, hn⟩ := hat i hlt
          have HH := Lib.hid hh
          clear hat hn
          have i0 : (0 : Int) ≤ (i : Int) := by omega
          have i1 : (i : Int) < ((cutF I).cost.length : Int) := by omega
          have c3_z : gc < wr.heap.size := HC.out.box.lt
          have c3_c0 : wr.cell? ⟨gc, 0, none⟩ = some (.int .i64 (cutF I).kind) := (HC.out.box.cell 0).trans rfl
          have c3_f0 := HC.out.box.frozen 0
          have c3_c1 : wr.cell? ⟨gc, 1, none⟩ = some (.int .i64 (cutF I).cap) := (HC.out.box.cell 1).trans rfl
          have c3_f1 := HC.out.box.frozen 1
          have c3_c2 : wr.cell? ⟨gc, 2, none⟩ = some (.slice K1 (cutF I).items.length k1) := (HC.out.box.cell 2).trans rfl
          have c3_f2 := HC.out.box.frozen 2
          have c3_c3 : wr.cell? ⟨gc, 3, none⟩ = some (.slice (some ⟨b, o, none⟩) (cutF I).cost.length k2) := (HC.out.box.cell 3).trans rfl
          have c3_f3 := HC.out.box.frozen 3
          have c3_c4 : wr.cell? ⟨gc, 4, none⟩ = some (.int .i64 (cutF I).size) := (HC.out.box.cell 4).trans rfl
          have c3_f4 := HC.out.box.frozen 4
          have c3_c5 : wr.cell? ⟨gc, 5, none⟩ = some (.slice K3 (cutF I).sets.length k3) := (HC.out.box.cell 5).trans rfl
          have c3_f5 := HC.out.box.frozen 5
          go_wp2_with fail
          go_loopw [48] (fun vj wr => ∃ (j : Nat), vj = .int .i64 j ∧ j ≤ m ∧ Hid (ShC wr w1 gc (cutF I).kind (cutF I).cap (cutF I).size K1 (some ⟨b, o, none⟩) K3 (cutF I).items.length (cutF I).cost.length (cutF I).sets.length k1 k2 k3) ∧ Hid (wr.cell? ⟨b, o + i, none⟩ = some (.slice Q m qc))) (fun vj _ => m - (intOf vj).toNat)
          case atStart => exact ⟨0, rfl, Nat.zero_le _, HC, HH⟩
          case round =>
            clear HC HH hh c3_z c3_c0 c3_f0 c3_c1 c3_f1 c3_c2 c3_f2 c3_c3 c3_f3 c3_c4 c3_f4 c3_c5 c3_f5
            obtain ⟨j, rfl, hj, HC, HH⟩ := hrel
            have hh := HH.out
            by_cases hjm : j < m
            · obtain ⟨b', o', rfl, hat⟩ := (HC.out.r.at_ hlt hh) (by omega)
              have IC := Lib.hid (hat j hjm)
              obtain ⟨_, hb, hf, x, hx, hxi⟩ := hat j hjm
              clear hat
              have j0 : (0 : Int) ≤ (j : Int) := by omega
              have j1 : (j : Int) < (m : Int) := by omega
              have c4_z : gc < wr.heap.size := HC.out.box.lt
              have c4_c0 : wr.cell? ⟨gc, 0, none⟩ = some (.int .i64 (cutF I).kind) := (HC.out.box.cell 0).trans rfl
              have c4_f0 := HC.out.box.frozen 0
              have c4_c1 : wr.cell? ⟨gc, 1, none⟩ = some (.int .i64 (cutF I).cap) := (HC.out.box.cell 1).trans rfl
              have c4_f1 := HC.out.box.frozen 1
              have c4_c2 : wr.cell? ⟨gc, 2, none⟩ = some (.slice K1 (cutF I).items.length k1) := (HC.out.box.cell 2).trans rfl
              have c4_f2 := HC.out.box.frozen 2
              have c4_c3 : wr.cell? ⟨gc, 3, none⟩ = some (.slice (some ⟨b, o, none⟩) (cutF I).cost.length k2) := (HC.out.box.cell 3).trans rfl
              have c4_f3 := HC.out.box.frozen 3
              have c4_c4 : wr.cell? ⟨gc, 4, none⟩ = some (.int .i64 (cutF I).size) := (HC.out.box.cell 4).trans rfl
              have c4_f4 := HC.out.box.frozen 4
              have c4_c5 : wr.cell? ⟨gc, 5, none⟩ = some (.slice K3 (cutF I).sets.length k3) := (HC.out.box.cell 5).trans rfl
              have c4_f5 := HC.out.box.frozen 5
              go_wp2_with fail
              go_roundw
              case rel => exact ⟨j + 1, by go_num, by omega, Lib.hid (HC.out.put IC.out (xor_in hxi)), Lib.hid (hdr_put HH.out IC.out)⟩
              case measure => simp only [intOf]; omega
            · obtain rfl : j = m := by omega
              clear hjm hj
              go_wp2_with fail
              go_roundw
              case rel => exact ⟨i + 1, by go_num, by omega, HC⟩
              case measure => simp only [intOf]; omega
        · obtain rfl : i = (cutF I).cost.length := by omega
          clear hlt hi
          have c5_z : gc < wr.heap.size := HC.out.box.lt
          have c5_c0 : wr.cell? ⟨gc, 0, none⟩ = some (.int .i64 (cutF I).kind) := (HC.out.box.cell 0).trans rfl
          have c5_f0 := HC.out.box.frozen 0
          have c5_c1 : wr.cell? ⟨gc, 1, none⟩ = some (.int .i64 (cutF I).cap) := (HC.out.box.cell 1).trans rfl
          have c5_f1 := HC.out.box.frozen 1
          have c5_c2 : wr.cell? ⟨gc, 2, none⟩ = some (.slice K1 (cutF I).items.length k1) := (HC.out.box.cell 2).trans rfl
          have c5_f2 := HC.out.box.frozen 2
          have c5_c3 : wr.cell? ⟨gc, 3, none⟩ = some (.slice K2 (cutF I).cost.length k2) := (HC.out.box.cell 3).trans rfl
          have c5_f3 := HC.out.box.frozen 3
          have c5_c4 : wr.cell? ⟨gc, 4, none⟩ = some (.int .i64 (cutF I).size) := (HC.out.box.cell 4).trans rfl
          have c5_f4 := HC.out.box.frozen 4
          have c5_c5 : wr.cell? ⟨gc, 5, none⟩ = some (.slice K3 (cutF I).sets.length k3) := (HC.out.box.cell 5).trans rfl
          have c5_f5 := HC.out.box.frozen 5
          go_wp2_with fail
          go_loopw [66] (fun vi wr => ∃ (i : Nat), vi = .int .i64 i ∧ i ≤ (cutF I).sets.length ∧ Hid (ShC wr w1 gc (cutF I).kind (cutF I).cap (cutF I).size K1 K2 K3 (cutF I).items.length (cutF I).cost.length (cutF I).sets.length k1 k2 k3)) (fun vi _ => (cutF I).sets.length - (intOf vi).toNat)
          case atStart => exact ⟨0, rfl, Nat.zero_le _, HC⟩
          case round =>
            clear HC c5_z c5_c0 c5_f0 c5_c1 c5_f1 c5_c2 c5_f2 c5_c3 c5_f3 c5_c4 c5_f4 c5_c5 c5_f5
            obtain ⟨i, rfl, hi, HC⟩ := hrel
            by_cases hlt : i < (cutF I).sets.length
            · obtain ⟨b, o, rfl, hbg, hat⟩ := HC.out.s (by omega)
              obtain ⟨h0, Q, m, qc, hh, m1, m2, hn⟩ := hat i hlt
              have IC := Lib.hid h0
              obtain ⟨_, hb, hf, x, hx, hxi⟩ := h0
              have HH := Lib.hid (hdr_put (z := bits .xor .i64 x 1) hh IC.out)
              have HO := HC
              replace HC := Lib.hid (HC.out.put IC.out (xor_in hxi))
              clear hat hn
              have hg := HH.out
              have i0 : (0 : Int) ≤ (i : Int) := by omega
              have i1 : (i : Int) < ((cutF I).sets.length : Int) := by omega
              have ne1 : ¬ b = gc := by omega
              have ne2 : ¬ gc = b := by omega
              have c6_z : gc < wr.heap.size := HO.out.box.lt
              have c6_c0 : wr.cell? ⟨gc, 0, none⟩ = some (.int .i64 (cutF I).kind) := (HO.out.box.cell 0).trans rfl
              have c6_f0 := HO.out.box.frozen 0
              have c6_c1 : wr.cell? ⟨gc, 1, none⟩ = some (.int .i64 (cutF I).cap) := (HO.out.box.cell 1).trans rfl
              have c6_f1 := HO.out.box.frozen 1
              have c6_c2 : wr.cell? ⟨gc, 2, none⟩ = some (.slice K1 (cutF I).items.length k1) := (HO.out.box.cell 2).trans rfl
              have c6_f2 := HO.out.box.frozen 2
              have c6_c3 : wr.cell? ⟨gc, 3, none⟩ = some (.slice K2 (cutF I).cost.length k2) := (HO.out.box.cell 3).trans rfl
              have c6_f3 := HO.out.box.frozen 3
              have c6_c4 : wr.cell? ⟨gc, 4, none⟩ = some (.int .i64 (cutF I).size) := (HO.out.box.cell 4).trans rfl
              have c6_f4 := HO.out.box.frozen 4
              have c6_c5 : wr.cell? ⟨gc, 5, none⟩ = some (.slice (some ⟨b, o, none⟩) (cutF I).sets.length k3) := (HO.out.box.cell 5).trans rfl
              have c6_f5 := HO.out.box.frozen 5
              have c7_z : gc < (wr.setCell ⟨b, o + i * 2, none⟩ (.int .i64 (bits .xor .i64 x 1))).heap.size := HC.out.box.lt
              have c7_c0 : (wr.setCell ⟨b, o + i * 2, none⟩ (.int .i64 (bits .xor .i64 x 1))).cell? ⟨gc, 0, none⟩ = some (.int .i64 (cutF I).kind) := (HC.out.box.cell 0).trans rfl
              have c7_f0 := HC.out.box.frozen 0
              have c7_c1 : (wr.setCell ⟨b, o + i * 2, none⟩ (.int .i64 (bits .xor .i64 x 1))).cell? ⟨gc, 1, none⟩ = some (.int .i64 (cutF I).cap) := (HC.out.box.cell 1).trans rfl
              have c7_f1 := HC.out.box.frozen 1
              have c7_c2 : (wr.setCell ⟨b, o + i * 2, none⟩ (.int .i64 (bits .xor .i64 x 1))).cell? ⟨gc, 2, none⟩ = some (.slice K1 (cutF I).items.length k1) := (HC.out.box.cell 2).trans rfl
              have c7_f2 := HC.out.box.frozen 2
              have c7_c3 : (wr.setCell ⟨b, o + i * 2, none⟩ (.int .i64 (bits .xor .i64 x 1))).cell? ⟨gc, 3, none⟩ = some (.slice K2 (cutF I).cost.length k2) := (HC.out.box.cell 3).trans rfl
              have c7_f3 := HC.out.box.frozen 3
              have c7_c4 : (wr.setCell ⟨b, o + i * 2, none⟩ (.int .i64 (bits .xor .i64 x 1))).cell? ⟨gc, 4, none⟩ = some (.int .i64 (cutF I).size) := (HC.out.box.cell 4).trans rfl
              have c7_f4 := HC.out.box.frozen 4
              have c7_c5 : (wr.setCell ⟨b, o + i * 2, none⟩ (.int .i64 (bits .xor .i64 x 1))).cell? ⟨gc, 5, none⟩ = some (.slice (some ⟨b, o, none⟩) (cutF I).sets.length k3) := (HC.out.box.cell 5).trans rfl
              have c7_f5 := HC.out.box.frozen 5
              go_wp2_with fail
              clear c6_z c6_c0 c6_f0 c6_c1 c6_f1 c6_c2 c6_f2 c6_c3 c6_f3 c6_c4 c6_f4 c6_c5 c6_f5 c7_z c7_c0 c7_f0 c7_c1 c7_f1 c7_c2 c7_f2 c7_c3 c7_f3 c7_c4 c7_f4 c7_c5 c7_f5 HO IC hh hf hx hxi
              generalize (wr.setCell ⟨b, o + i * 2, none⟩ (.int .i64 (bits .xor .i64 x 1))) = wq at HC HH hg ⊢
              go_loopw [85] (fun vj wr => ∃ (j : Nat), vj = .int .i64 j ∧ j ≤ m ∧ Hid (ShC wr w1 gc (cutF I).kind (cutF I).cap (cutF I).size K1 K2 (some ⟨b, o, none⟩) (cutF I).items.length (cutF I).cost.length (cutF I).sets.length k1 k2 k3) ∧ Hid (wr.cell? ⟨b, o + i * 2 + 1, none⟩ = some (.slice Q m qc))) (fun vj _ => m - (intOf vj).toNat)
              case atStart => exact ⟨0, rfl, Nat.zero_le _, HC, HH⟩
              case round =>
                clear HC HH hg
                obtain ⟨j, rfl, hj, HC, HH⟩ := hrel
                have hh := HH.out
                by_cases hjm : j < m
                · obtain ⟨b', o', rfl, hat⟩ := (HC.out.s.at_ hlt hh) (by omega)
                  have IC := Lib.hid (hat j hjm)
                  obtain ⟨_, hb', hf, x', hx, hxi⟩ := hat j hjm
                  clear hat
                  have j0 : (0 : Int) ≤ (j : Int) := by omega
                  have j1 : (j : Int) < (m : Int) := by omega
                  have c8_z : gc < wr.heap.size := HC.out.box.lt
                  have c8_c0 : wr.cell? ⟨gc, 0, none⟩ = some (.int .i64 (cutF I).kind) := (HC.out.box.cell 0).trans rfl
                  have c8_f0 := HC.out.box.frozen 0
                  have c8_c1 : wr.cell? ⟨gc, 1, none⟩ = some (.int .i64 (cutF I).cap) := (HC.out.box.cell 1).trans rfl
                  have c8_f1 := HC.out.box.frozen 1
                  have c8_c2 : wr.cell? ⟨gc, 2, none⟩ = some (.slice K1 (cutF I).items.length k1) := (HC.out.box.cell 2).trans rfl
                  have c8_f2 := HC.out.box.frozen 2
                  have c8_c3 : wr.cell? ⟨gc, 3, none⟩ = some (.slice K2 (cutF I).cost.length k2) := (HC.out.box.cell 3).trans rfl
                  have c8_f3 := HC.out.box.frozen 3
                  have c8_c4 : wr.cell? ⟨gc, 4, none⟩ = some (.int .i64 (cutF I).size) := (HC.out.box.cell 4).trans rfl
                  have c8_f4 := HC.out.box.frozen 4
                  have c8_c5 : wr.cell? ⟨gc, 5, none⟩ = some (.slice (some ⟨b, o, none⟩) (cutF I).sets.length k3) := (HC.out.box.cell 5).trans rfl
                  have c8_f5 := HC.out.box.frozen 5
                  go_wp2_with fail
                  go_roundw
                  case rel => exact ⟨j + 1, by go_num, by omega, Lib.hid (HC.out.put IC.out (xor_in hxi)), Lib.hid (hdr_put HH.out IC.out)⟩
                  case measure => simp only [intOf]; omega
                · obtain rfl : j = m := by omega
                  clear hjm hj
                  go_wp2_with fail
                  go_roundw
                  case rel => exact ⟨i + 1, by go_num, by omega, HC⟩
                  case measure => simp only [intOf]; omega
            · obtain rfl : i = (cutF I).sets.length := by omega
              clear hlt hi
              have Bx1 := Bx.below HC.out.bl
              have bl3 := bl_step bl2 HC.out.bl
              have x_z : w.heap.size < wr.heap.size := Bx1.lt
              have x_c0 : wr.cell? ⟨w.heap.size, 0, none⟩ = some (.int .i64 I.kind) := (Bx1.cell 0).trans rfl
              have x_f0 := Bx1.frozen 0
              have x_c1 : wr.cell? ⟨w.heap.size, 1, none⟩ = some (.int .i64 I.cap) := (Bx1.cell 1).trans rfl
              have x_f1 := Bx1.frozen 1
              have x_c2 : wr.cell? ⟨w.heap.size, 2, none⟩ = some (.slice A1 I.items.length a1) := (Bx1.cell 2).trans rfl
              have x_f2 := Bx1.frozen 2
              have x_c3 : wr.cell? ⟨w.heap.size, 3, none⟩ = some (.slice A2 I.cost.length a2) := (Bx1.cell 3).trans rfl
              have x_f3 := Bx1.frozen 3
              have x_c4 : wr.cell? ⟨w.heap.size, 4, none⟩ = some (.int .i64 I.size) := (Bx1.cell 4).trans rfl
              have x_f4 := Bx1.frozen 4
              have x_c5 : wr.cell? ⟨w.heap.size, 5, none⟩ = some (.slice A3 I.sets.length a3) := (Bx1.cell 5).trans rfl
              have x_f5 := Bx1.frozen 5
              go_wp2_with fail
              (with_reducible refine (H1.out _ bl3).mono ?_); rintro e v3 ⟨F1, f1, F2, f2, F3, f3, G1, g1, G2, g2, G3, g3, rfl, ⟨od, oe⟩, hb3⟩
              have nb : Below v3.heap.size v3 ((v3.alloc (.cells #[.int .i64 (cutF I).kind, .int .i64 (cutF I).cap, .slice F1 (cutF I).items.length f1, .slice F2 (cutF I).cost.length f2, .int .i64 (cutF I).size, .slice F3 (cutF I).sets.length f3] 33)).alloc (.cells #[.int .i64 (cutF I).kind, .int .i64 (cutF I).cap, .slice G1 (cutF I).items.length g1, .slice G2 (cutF I).cost.length g2, .int .i64 (cutF I).size, .slice G3 (cutF I).sets.length g3] 36)) := bl_alloc (bl_alloc (Below.refl _ _) _) _
              have OD := Lib.hid od
              clear od oe x_z x_c0 x_f0 x_c1 x_f1 x_c2 x_f2 x_c3 x_f3 x_c4 x_f4 x_c5 x_f5
              go_wp2_with fail
              have bl4 : Below w.heap.size w ((v3.alloc (.cells #[.int .i64 (cutF I).kind, .int .i64 (cutF I).cap, .slice F1 (cutF I).items.length f1, .slice F2 (cutF I).cost.length f2, .int .i64 (cutF I).size, .slice F3 (cutF I).sets.length f3] 33)).alloc (.cells #[.int .i64 (cutF I).kind, .int .i64 (cutF I).cap, .slice G1 (cutF I).items.length g1, .slice G2 (cutF I).cost.length g2, .int .i64 (cutF I).size, .slice G3 (cutF I).sets.length g3] 36)) := bl_step (bl_step bl3 hb3) nb
              have H0 : ApR ((v3.alloc (.cells #[.int .i64 (cutF I).kind, .int .i64 (cutF I).cap, .slice F1 (cutF I).items.length f1, .slice F2 (cutF I).cost.length f2, .int .i64 (cutF I).size, .slice F3 (cutF I).sets.length f3] 33)).alloc (.cells #[.int .i64 (cutF I).kind, .int .i64 (cutF I).cap, .slice G1 (cutF I).items.length g1, .slice G2 (cutF I).cost.length g2, .int .i64 (cutF I).size, .slice G3 (cutF I).sets.length g3] 36)) v1.heap.size v3.heap.size (cutF I) D1 D2 D3 E1 E2 E3 F1 F2 F3 d1 d2 d3 e1 e2 e3 f1 f2 f3 :=
                ⟨((Ba.below HC.out.bl).below hb3).below nb, ((Bb.below HC.out.bl).below hb3).below nb, (Blk.new _ _ _).alloc _, ⟨_, ((OA.out.below HC.out.bl).below hb3).below nb⟩, ⟨_, ((OB.out.below HC.out.bl).below hb3).below nb⟩, ⟨_, OD.out.below nb⟩, HN.out.below bl4⟩
              clear OA OB OD HN nb bl3 bl2 hb3 HC Ba Bb Bx Bx1
              generalize (v3.alloc (.cells #[.int .i64 (cutF I).kind, .int .i64 (cutF I).cap, .slice F1 (cutF I).items.length f1, .slice F2 (cutF I).cost.length f2, .int .i64 (cutF I).size, .slice F3 (cutF I).sets.length f3] 33)).alloc (.cells #[.int .i64 (cutF I).kind, .int .i64 (cutF I).cap, .slice G1 (cutF I).items.length g1, .slice G2 (cutF I).cost.length g2, .int .i64 (cutF I).size, .slice G3 (cutF I).sets.length g3] 36) = w0 at H0 bl4 ⊢
              refine wp_region_pre (S := fun w' => w'.cell? ⟨v1.heap.size, 0, none⟩ = some (.int .i64 (cutF I).kind) ∧ w'.cell? ⟨v1.heap.size, 1, none⟩ = some (.int .i64 (cutF I).cap) ∧ w'.cell? ⟨v1.heap.size, 2, none⟩ = some (.slice D1 (cutF I).items.length d1) ∧ w'.cell? ⟨v1.heap.size, 3, none⟩ = some (.slice D2 (cutF I).cost.length d2) ∧ w'.cell? ⟨v1.heap.size, 4, none⟩ = some (.int .i64 (cutF I).size) ∧ w'.cell? ⟨v1.heap.size, 5, none⟩ = some (.slice D3 (cutF I).sets.length d3) ∧ w'.cell? ⟨v1.heap.size + 1, 0, none⟩ = some (.int .i64 (cutF I).kind) ∧ w'.cell? ⟨v1.heap.size + 1, 1, none⟩ = some (.int .i64 (cutF I).cap) ∧ w'.cell? ⟨v1.heap.size + 1, 2, none⟩ = some (.slice E1 (cutF I).items.length e1) ∧ w'.cell? ⟨v1.heap.size + 1, 3, none⟩ = some (.slice E2 (cutF I).cost.length e2) ∧ w'.cell? ⟨v1.heap.size + 1, 4, none⟩ = some (.int .i64 (cutF I).size) ∧ w'.cell? ⟨v1.heap.size + 1, 5, none⟩ = some (.slice E3 (cutF I).sets.length e3) ∧ w'.cell? ⟨v3.heap.size, 0, none⟩ = some (.int .i64 (cutF I).kind) ∧ w'.cell? ⟨v3.heap.size, 1, none⟩ = some (.int .i64 (cutF I).cap) ∧ w'.cell? ⟨v3.heap.size, 2, none⟩ = some (.slice F1 (cutF I).items.length f1) ∧ w'.cell? ⟨v3.heap.size, 3, none⟩ = some (.slice F2 (cutF I).cost.length f2) ∧ w'.cell? ⟨v3.heap.size, 4, none⟩ = some (.int .i64 (cutF I).size) ∧ w'.cell? ⟨v3.heap.size, 5, none⟩ = some (.slice F3 (cutF I).sets.length f3)) 13 (by kernel_rfl) (by kernel_rfl) ?_ (fun hH0 => ?_)
              · exact ⟨(H0.drew.a.cell 0).trans rfl, (H0.drew.a.cell 1).trans rfl, (H0.drew.a.cell 2).trans rfl, (H0.drew.a.cell 3).trans rfl, (H0.drew.a.cell 4).trans rfl, (H0.drew.a.cell 5).trans rfl, (H0.drew.b.cell 0).trans rfl, (H0.drew.b.cell 1).trans rfl, (H0.drew.b.cell 2).trans rfl, (H0.drew.b.cell 3).trans rfl, (H0.drew.b.cell 4).trans rfl, (H0.drew.b.cell 5).trans rfl, (H0.drew.d.cell 0).trans rfl, (H0.drew.d.cell 1).trans rfl, (H0.drew.d.cell 2).trans rfl, (H0.drew.d.cell 3).trans rfl, (H0.drew.d.cell 4).trans rfl, (H0.drew.d.cell 5).trans rfl⟩
              refine PreG.ready (rs := [0]) (by kernel_rfl) (by kernel_rfl) ?_
              refine AllPre.cons rfl (fun K hK => ?_) ?_
              · go_simp
                (with_reducible refine (wakes_any _ H0.drew.nm).mono ?_); rintro e X24 ⟨rfl, hb24⟩
                go_wp2_with fail
                have HA24 := H0.drew.below hb24
                have bl24 := bl_step (bl_drew bl4) hb24
                refine hK.out _ _ ?_ (fun hH1 => ?_)
                · exact ⟨(HA24.a.cell 0).trans rfl, (HA24.a.cell 1).trans rfl, (HA24.a.cell 2).trans rfl, (HA24.a.cell 3).trans rfl, (HA24.a.cell 4).trans rfl, (HA24.a.cell 5).trans rfl, (HA24.b.cell 0).trans rfl, (HA24.b.cell 1).trans rfl, (HA24.b.cell 2).trans rfl, (HA24.b.cell 3).trans rfl, (HA24.b.cell 4).trans rfl, (HA24.b.cell 5).trans rfl, (HA24.d.cell 0).trans rfl, (HA24.d.cell 1).trans rfl, (HA24.d.cell 2).trans rfl, (HA24.d.cell 3).trans rfl, (HA24.d.cell 4).trans rfl, (HA24.d.cell 5).trans rfl⟩
                clear hK K hH0
                try simp only [Act.put, List.getElem_toArray, List.getElem_cons_zero, List.getElem_cons_succ, List.setIfInBounds_toArray, List.set_cons_zero, List.set_cons_succ]
                refine PreG.take (i := 1) (v := ?vv25) rfl (by kernel_rfl) (by kernel_rfl) (fun _ _ _ h => h) (Or.inl ⟨by rfl, ?hy25⟩) (by assumption) ?rest25
                case hy25 => intro w hSw; (try dsimp only at hSw); first | (go_simp; done) | (go_simp; with_reducible rfl)
                try simp only [Act.put, List.getElem_toArray, List.getElem_cons_zero, List.getElem_cons_succ, List.setIfInBounds_toArray, List.set_cons_zero, List.set_cons_succ]
                refine PreG.take (i := 2) (v := ?vv26) rfl (by kernel_rfl) (by kernel_rfl) (fun _ _ _ h => h) (Or.inl ⟨by rfl, ?hy26⟩) (by assumption) ?rest26
                case hy26 => intro w hSw; (try dsimp only at hSw); first | (go_simp; done) | (go_simp; with_reducible rfl)
                try simp only [Act.put, List.getElem_toArray, List.getElem_cons_zero, List.getElem_cons_succ, List.setIfInBounds_toArray, List.set_cons_zero, List.set_cons_succ]
                refine PreG.take (i := 3) (v := ?vv27) rfl (by kernel_rfl) (by kernel_rfl) (fun _ _ _ h => h) (Or.inl ⟨by rfl, ?hy27⟩) (by assumption) ?rest27
                case hy27 => intro w hSw; (try dsimp only at hSw); first | (go_simp; done) | (go_simp; with_reducible rfl)
                try simp only [Act.put, List.getElem_toArray, List.getElem_cons_zero, List.getElem_cons_succ, List.setIfInBounds_toArray, List.set_cons_zero, List.set_cons_succ]
                refine PreG.ready (rs := [4]) (by kernel_rfl) (by kernel_rfl) ?_
                refine AllPre.cons rfl (fun K hK => ?_) ?_
                · go_simp
                  (with_reducible refine (ap_eq HA24).mono ?_); rintro e X28 ⟨rfl, hb28⟩
                  go_wp2_with fail
                  have HA28 := HA24.below hb28
                  have bl28 := bl_step bl24 hb28
                  refine hK.out _ _ ?_ (fun hH2 => ?_)
                  · exact ⟨(HA28.a.cell 0).trans rfl, (HA28.a.cell 1).trans rfl, (HA28.a.cell 2).trans rfl, (HA28.a.cell 3).trans rfl, (HA28.a.cell 4).trans rfl, (HA28.a.cell 5).trans rfl, (HA28.b.cell 0).trans rfl, (HA28.b.cell 1).trans rfl, (HA28.b.cell 2).trans rfl, (HA28.b.cell 3).trans rfl, (HA28.b.cell 4).trans rfl, (HA28.b.cell 5).trans rfl, (HA28.d.cell 0).trans rfl, (HA28.d.cell 1).trans rfl, (HA28.d.cell 2).trans rfl, (HA28.d.cell 3).trans rfl, (HA28.d.cell 4).trans rfl, (HA28.d.cell 5).trans rfl⟩
                  clear hK K hH1
                  try simp only [Act.put, List.getElem_toArray, List.getElem_cons_zero, List.getElem_cons_succ, List.setIfInBounds_toArray, List.set_cons_zero, List.set_cons_succ]
                  refine PreG.take (i := 5) (v := ?vv29) rfl (by kernel_rfl) (by kernel_rfl) (fun _ _ _ h => h) (Or.inl ⟨by rfl, ?hy29⟩) (by assumption) ?rest29
                  case hy29 => intro w hSw; (try dsimp only at hSw); first | (go_simp; done) | (go_simp; with_reducible rfl)
                  try simp only [Act.put, List.getElem_toArray, List.getElem_cons_zero, List.getElem_cons_succ, List.setIfInBounds_toArray, List.set_cons_zero, List.set_cons_succ]
                  refine PreG.take (i := 6) (v := ?vv30) rfl (by kernel_rfl) (by kernel_rfl) (fun _ _ _ h => h) (Or.inl ⟨by rfl, ?hy30⟩) (by assumption) ?rest30
                  case hy30 => intro w hSw; (try dsimp only at hSw); first | (go_simp; done) | (go_simp; with_reducible rfl)
                  try simp only [Act.put, List.getElem_toArray, List.getElem_cons_zero, List.getElem_cons_succ, List.setIfInBounds_toArray, List.set_cons_zero, List.set_cons_succ]
                  refine PreG.take (i := 7) (v := ?vv31) rfl (by kernel_rfl) (by kernel_rfl) (fun _ _ _ h => h) (Or.inl ⟨by rfl, ?hy31⟩) (by assumption) ?rest31
                  case hy31 => intro w hSw; (try dsimp only at hSw); first | (go_simp; done) | (go_simp; with_reducible rfl)
                  try simp only [Act.put, List.getElem_toArray, List.getElem_cons_zero, List.getElem_cons_succ, List.setIfInBounds_toArray, List.set_cons_zero, List.set_cons_succ]
                  refine PreG.take (i := 9) (v := ?vv32) rfl (by kernel_rfl) (by kernel_rfl) (fun _ _ _ h => h) (Or.inl ⟨by rfl, ?hy32⟩) (by assumption) ?rest32
                  case hy32 => intro w hSw; (try dsimp only at hSw); first | (go_simp; done) | (go_simp; with_reducible rfl)
                  try simp only [Act.put, List.getElem_toArray, List.getElem_cons_zero, List.getElem_cons_succ, List.setIfInBounds_toArray, List.set_cons_zero, List.set_cons_succ]
                  refine PreG.ready (rs := [8]) (by kernel_rfl) (by kernel_rfl) ?_
                  refine AllPre.cons rfl (fun K hK => ?_) ?_
                  · go_simp
                    (with_reducible refine (ap_bc HA28 HZ).mono ?_); rintro e X33 ⟨rfl, hb33⟩
                    go_wp2_with fail
                    have HA33 := HA28.below hb33
                    have bl33 := bl_step bl28 hb33
                    refine hK.out _ _ ?_ (fun hH3 => ?_)
                    · exact ⟨(HA33.a.cell 0).trans rfl, (HA33.a.cell 1).trans rfl, (HA33.a.cell 2).trans rfl, (HA33.a.cell 3).trans rfl, (HA33.a.cell 4).trans rfl, (HA33.a.cell 5).trans rfl, (HA33.b.cell 0).trans rfl, (HA33.b.cell 1).trans rfl, (HA33.b.cell 2).trans rfl, (HA33.b.cell 3).trans rfl, (HA33.b.cell 4).trans rfl, (HA33.b.cell 5).trans rfl, (HA33.d.cell 0).trans rfl, (HA33.d.cell 1).trans rfl, (HA33.d.cell 2).trans rfl, (HA33.d.cell 3).trans rfl, (HA33.d.cell 4).trans rfl, (HA33.d.cell 5).trans rfl⟩
                    clear hK K hH2
                    try simp only [Act.put, List.getElem_toArray, List.getElem_cons_zero, List.getElem_cons_succ, List.setIfInBounds_toArray, List.set_cons_zero, List.set_cons_succ]
                    refine PreG.ready (rs := [10]) (by kernel_rfl) (by kernel_rfl) ?_
                    refine AllPre.cons rfl (fun K hK => ?_) ?_
                    · go_simp
                      (with_reducible refine (ap_ck HA33 HZ).mono ?_); rintro e X34 ⟨rfl, hb34⟩
                      go_wp2_with fail
                      have HA34 := HA33.below hb34
                      have bl34 := bl_step bl33 hb34
                      refine hK.out _ _ ?_ (fun hH4 => ?_)
                      · exact ⟨(HA34.a.cell 0).trans rfl, (HA34.a.cell 1).trans rfl, (HA34.a.cell 2).trans rfl, (HA34.a.cell 3).trans rfl, (HA34.a.cell 4).trans rfl, (HA34.a.cell 5).trans rfl, (HA34.b.cell 0).trans rfl, (HA34.b.cell 1).trans rfl, (HA34.b.cell 2).trans rfl, (HA34.b.cell 3).trans rfl, (HA34.b.cell 4).trans rfl, (HA34.b.cell 5).trans rfl, (HA34.d.cell 0).trans rfl, (HA34.d.cell 1).trans rfl, (HA34.d.cell 2).trans rfl, (HA34.d.cell 3).trans rfl, (HA34.d.cell 4).trans rfl, (HA34.d.cell 5).trans rfl⟩
                      clear hK K hH3
                      try simp only [Act.put, List.getElem_toArray, List.getElem_cons_zero, List.getElem_cons_succ, List.setIfInBounds_toArray, List.set_cons_zero, List.set_cons_succ]
                      refine PreG.take (i := 11) (v := ?vv35) rfl (by kernel_rfl) (by kernel_rfl) (fun _ _ _ h => h) (Or.inl ⟨by rfl, ?hy35⟩) (by assumption) ?rest35
                      case hy35 => intro w hSw; (try dsimp only at hSw); first | (go_simp; done) | (go_simp; with_reducible rfl)
                      try simp only [Act.put, List.getElem_toArray, List.getElem_cons_zero, List.getElem_cons_succ, List.setIfInBounds_toArray, List.set_cons_zero, List.set_cons_succ]
                      refine PreG.take (i := 12) (v := ?vv36) rfl (by kernel_rfl) (by kernel_rfl) (fun _ _ _ h => h) (Or.inl ⟨by rfl, ?hy36⟩) (by assumption) ?rest36
                      case hy36 => intro w hSw; (try dsimp only at hSw); first | (go_simp; done) | (go_simp; with_reducible rfl)
                      try simp only [Act.put, List.getElem_toArray, List.getElem_cons_zero, List.getElem_cons_succ, List.setIfInBounds_toArray, List.set_cons_zero, List.set_cons_succ]
                      refine PreG.done (by kernel_rfl) ?_
                      simp only [List.drop_succ_cons, List.drop_zero]
                      clear hH4
                      go_wp2
                      go_ret
                      exact ⟨rfl, bl34⟩
                    exact AllPre.nil
                  exact AllPre.nil
                exact AllPre.nil
              exact AllPre.nil
end Go.Proofs.YteddbdmddgmicaaDoor
