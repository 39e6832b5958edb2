/- The walk of InstChecks. -/
import Derived.Test.YteddbdmddgmicaaDoorInstEqualW
import Derived.Test.YteddbdmddgmicaaDoorIH
import Derived.Test.YteddbdmddgmicaaDoorITm
import Derived.LoopTactic
namespace Go.Proofs.YteddbdmddgmicaaDoor
open Go.RowKit
set_option linter.unusedVariables false
set_option linter.unusedSimpArgs false
set_option maxRecDepth 100000

theorem tame9 (I : IData) (A1 A2 A3 : Option Addr) (c1 c2 c3 : Nat) (w : World) {B : Nat} (hI : InstAt w B I A1 c1 A2 c2 A3 c3) :
    Calls Tryd.prog 7 #[.agg #[.int .i64 I.kind, .int .i64 I.cap, .slice A1 I.items.length c1, .slice A2 I.cost.length c2, .int .i64 I.size, .slice A3 I.sets.length c3], .int .i64 9] w fun e w' => TamePost w 9 e w' := tame_any I A1 A2 A3 c1 c2 c3 9 ⟨by omega, by omega⟩ w hI
theorem name0 (w : World) (hw : NamesW w) : Calls Tryd.prog 14 #[.int .i64 0] w fun e w' => e = .returned (.string ⟨#[107, 110, 97, 112, 115, 97, 99, 107]⟩) ∧ Below w.heap.size w w' := name_any 0 w hw
theorem name1 (w : World) (hw : NamesW w) : Calls Tryd.prog 14 #[.int .i64 1] w fun e w' => e = .returned (.string ⟨#[97, 115, 115, 105, 103, 110, 109, 101, 110, 116]⟩) ∧ Below w.heap.size w w' := name_any 1 w hw
theorem name2 (w : World) (hw : NamesW w) : Calls Tryd.prog 14 #[.int .i64 2] w fun e w' => e = .returned (.string ⟨#[116, 115, 112]⟩) ∧ Below w.heap.size w w' := name_any 2 w hw
theorem name3 (w : World) (hw : NamesW w) : Calls Tryd.prog 14 #[.int .i64 3] w fun e w' => e = .returned (.string ⟨#[99, 111, 118, 101, 114]⟩) ∧ Below w.heap.size w w' := name_any 3 w hw
theorem nameN (k : Int) (h : ¬ (0 ≤ k ∧ k ≤ 3)) (w : World) (hw : NamesW w) : Calls Tryd.prog 14 #[.int .i64 k] w fun e w' => e = .returned (.string ⟨#[]⟩) ∧ Below w.heap.size w w' := by
  have e : nameR k = ⟨#[]⟩ := by unfold nameR; rw [if_neg (by omega), if_neg (by omega), if_neg (by omega), if_neg (by omega)]
  rw [← e]
  exact name_any k w hw
/-- What stands in the law's loop. -/
structure ChR (wr w : World) (g : Nat) (I : IData) (A1 A2 A3 D1 D2 D3 : Option Addr) (a1 a2 a3 d1 d2 d3 : Nat) (T : IData) : Prop where
  box : Blk wr w.heap.size 26 #[.int .i64 I.kind, .int .i64 I.cap, .slice A1 I.items.length a1, .slice A2 I.cost.length a2, .int .i64 I.size, .slice A3 I.sets.length a3]
  lst : Blk wr g 26 #[.int .i64 I.kind, .int .i64 I.cap, .slice A1 I.items.length a1, .slice A2 I.cost.length a2, .int .i64 I.size, .slice A3 I.sets.length a3, .int .i64 T.kind, .int .i64 T.cap, .slice D1 T.items.length d1, .slice D2 T.cost.length d2, .int .i64 T.size, .slice D3 T.sets.length d3]
  own : ∃ k, OwnI wr k 60 61 T D1 d1 D2 d2 D3 d3
  b : Below w.heap.size w wr
theorem ChR.below {wr wq w : World} {g : Nat} {I : IData} {A1 A2 A3 D1 D2 D3 : Option Addr} {a1 a2 a3 d1 d2 d3 : Nat} {T : IData} (h : ChR wr w g I A1 A2 A3 D1 D2 D3 a1 a2 a3 d1 d2 d3 T) (hb : Below wr.heap.size wr wq) : ChR wq w g I A1 A2 A3 D1 D2 D3 a1 a2 a3 d1 d2 d3 T := by
  obtain ⟨k, o⟩ := h.own
  exact ⟨h.box.below hb, h.lst.below hb, ⟨k, o.below hb⟩, bl_step h.b hb⟩
set_option maxHeartbeats 12800000 in
theorem InstChecks_walk (I : IData) (A1 A2 A3 : Option Addr) (a1 a2 a3 : Nat) (w : World) (hw : NamesW w) (hI : InstAt w w.heap.size I A1 a1 A2 a2 A3 a3) :
    Calls Tryd.prog 3 #[.agg #[.int .i64 I.kind, .int .i64 I.cap, .slice A1 I.items.length a1, .slice A2 I.cost.length a2, .int .i64 I.size, .slice A3 I.sets.length a3]] w fun e w' => e = .returned (.bool true) ∧ Below w.heap.size w w' := by
  have HN := Lib.hid hw
  have HI := Lib.hid hI
  have H1 := Lib.hid (fun w' (hb : Below w.heap.size w w') => tame9 I A1 A2 A3 a1 a2 a3 w' (hI.below hb))
  clear hw hI
  go_enter Tryd.func3, Tryd.ntmps3
  go_wp2_with fail
  have Bx : Blk (w.alloc (.cells #[.int .i64 I.kind, .int .i64 I.cap, .slice A1 I.items.length a1, .slice A2 I.cost.length a2, .int .i64 I.size, .slice A3 I.sets.length a3] 26)) w.heap.size 26 #[.int .i64 I.kind, .int .i64 I.cap, .slice A1 I.items.length a1, .slice A2 I.cost.length a2, .int .i64 I.size, .slice A3 I.sets.length a3] := Blk.new _ _ _
  have bl0 : Below w.heap.size w (w.alloc (.cells #[.int .i64 I.kind, .int .i64 I.cap, .slice A1 I.items.length a1, .slice A2 I.cost.length a2, .int .i64 I.size, .slice A3 I.sets.length a3] 26)) := bl_alloc (Below.refl _ _) _
  generalize w.alloc (.cells #[.int .i64 I.kind, .int .i64 I.cap, .slice A1 I.items.length a1, .slice A2 I.cost.length a2, .int .i64 I.size, .slice A3 I.sets.length a3] 26) = w0 at Bx bl0 ⊢
  have x_z : w.heap.size < w0.heap.size := Bx.lt
  have x_c0 : w0.cell? ⟨w.heap.size, 0, none⟩ = some (.int .i64 I.kind) := (Bx.cell 0).trans rfl
  have x_f0 := Bx.frozen 0
  have x_c1 : w0.cell? ⟨w.heap.size, 1, none⟩ = some (.int .i64 I.cap) := (Bx.cell 1).trans rfl
  have x_f1 := Bx.frozen 1
  have x_c2 : w0.cell? ⟨w.heap.size, 2, none⟩ = some (.slice A1 I.items.length a1) := (Bx.cell 2).trans rfl
  have x_f2 := Bx.frozen 2
  have x_c3 : w0.cell? ⟨w.heap.size, 3, none⟩ = some (.slice A2 I.cost.length a2) := (Bx.cell 3).trans rfl
  have x_f3 := Bx.frozen 3
  have x_c4 : w0.cell? ⟨w.heap.size, 4, none⟩ = some (.int .i64 I.size) := (Bx.cell 4).trans rfl
  have x_f4 := Bx.frozen 4
  have x_c5 : w0.cell? ⟨w.heap.size, 5, none⟩ = some (.slice A3 I.sets.length a3) := (Bx.cell 5).trans rfl
  have x_f5 := Bx.frozen 5
  go_region_held3 (fun w' => w'.cell? ⟨w.heap.size, 0, none⟩ = some (.int .i64 I.kind) ∧ w'.cell? ⟨w.heap.size, 1, none⟩ = some (.int .i64 I.cap) ∧ w'.cell? ⟨w.heap.size, 2, none⟩ = some (.slice A1 I.items.length a1) ∧ w'.cell? ⟨w.heap.size, 3, none⟩ = some (.slice A2 I.cost.length a2) ∧ w'.cell? ⟨w.heap.size, 4, none⟩ = some (.int .i64 I.size) ∧ w'.cell? ⟨w.heap.size, 5, none⟩ = some (.slice A3 I.sets.length a3)) (go_keep) (first | (go_at_call 7; (with_reducible refine (H1.out _ (bl_drew bl0)).mono ?_); rintro e u1 ⟨T, D1, d1, D2, d2, D3, d3, rfl, HT, HO, hb1⟩; have bl1 := bl_step (bl_drew bl0) hb1; have Bx1 := Bx.drew.below hb1; have y_z : w.heap.size < u1.heap.size := Bx1.lt; have y_c0 : u1.cell? ⟨w.heap.size, 0, none⟩ = some (.int .i64 I.kind) := (Bx1.cell 0).trans rfl; have y_f0 := Bx1.frozen 0; have y_c1 : u1.cell? ⟨w.heap.size, 1, none⟩ = some (.int .i64 I.cap) := (Bx1.cell 1).trans rfl; have y_f1 := Bx1.frozen 1; have y_c2 : u1.cell? ⟨w.heap.size, 2, none⟩ = some (.slice A1 I.items.length a1) := (Bx1.cell 2).trans rfl; have y_f2 := Bx1.frozen 2; have y_c3 : u1.cell? ⟨w.heap.size, 3, none⟩ = some (.slice A2 I.cost.length a2) := (Bx1.cell 3).trans rfl; have y_f3 := Bx1.frozen 3; have y_c4 : u1.cell? ⟨w.heap.size, 4, none⟩ = some (.int .i64 I.size) := (Bx1.cell 4).trans rfl; have y_f4 := Bx1.frozen 4; have y_c5 : u1.cell? ⟨w.heap.size, 5, none⟩ = some (.slice A3 I.sets.length a3) := (Bx1.cell 5).trans rfl; have y_f5 := Bx1.frozen 5; have xz : ∀ k, (⟨w.heap.size, k, none⟩ : Addr).block < u1.heap.size := fun _ => y_z))
  have nb : Below u1.heap.size u1 (u1.alloc (.cells #[.int .i64 I.kind, .int .i64 I.cap, .slice A1 I.items.length a1, .slice A2 I.cost.length a2, .int .i64 I.size, .slice A3 I.sets.length a3, .int .i64 T.kind, .int .i64 T.cap, .slice D1 T.items.length d1, .slice D2 T.cost.length d2, .int .i64 T.size, .slice D3 T.sets.length d3] 26)) := bl_alloc (Below.refl _ _) _
  have HR : Hid (ChR (u1.alloc (.cells #[.int .i64 I.kind, .int .i64 I.cap, .slice A1 I.items.length a1, .slice A2 I.cost.length a2, .int .i64 I.size, .slice A3 I.sets.length a3, .int .i64 T.kind, .int .i64 T.cap, .slice D1 T.items.length d1, .slice D2 T.cost.length d2, .int .i64 T.size, .slice D3 T.sets.length d3] 26)) w u1.heap.size I A1 A2 A3 D1 D2 D3 a1 a2 a3 d1 d2 d3 T) := Lib.hid ⟨Bx1.below nb, Blk.new _ _ _, ⟨_, HO.below nb⟩, bl_step bl1 nb⟩
  clear nb HT HO hb1 Bx1 bl1 bl0 Bx H1 x_z x_c0 x_f0 x_c1 x_f1 x_c2 x_f2 x_c3 x_f3 x_c4 x_f4 x_c5 x_f5 
  generalize u1.alloc (.cells #[.int .i64 I.kind, .int .i64 I.cap, .slice A1 I.items.length a1, .slice A2 I.cost.length a2, .int .i64 I.size, .slice A3 I.sets.length a3, .int .i64 T.kind, .int .i64 T.cap, .slice D1 T.items.length d1, .slice D2 T.cost.length d2, .int .i64 T.size, .slice D3 T.sets.length d3] 26) = ul at HR ⊢
  generalize u1.heap.size = gl at HR ⊢
  go_wp2_with fail
  go_loopw [14] (fun vi wr => ∃ (i : Int), vi = .int .i64 i ∧ (i = 0 ∨ i = 1 ∨ i = 2) ∧ Hid (ChR wr w gl I A1 A2 A3 D1 D2 D3 a1 a2 a3 d1 d2 d3 T)) (fun vi _ => 2 - (intOf vi).toNat)
  case atStart => exact ⟨0, rfl, .inl rfl, HR⟩
  case round =>
    clear HR
    obtain ⟨i, rfl, hi, HR⟩ := hrel
    rcases hi with rfl | rfl | rfl
    · have l_z : gl < wr.heap.size := HR.out.lst.lt
      have l_c0 : wr.cell? ⟨gl, 0, none⟩ = some (.int .i64 I.kind) := (HR.out.lst.cell 0).trans rfl
      have l_f0 := HR.out.lst.frozen 0
      have l_c1 : wr.cell? ⟨gl, 1, none⟩ = some (.int .i64 I.cap) := (HR.out.lst.cell 1).trans rfl
      have l_f1 := HR.out.lst.frozen 1
      have l_c2 : wr.cell? ⟨gl, 2, none⟩ = some (.slice A1 I.items.length a1) := (HR.out.lst.cell 2).trans rfl
      have l_f2 := HR.out.lst.frozen 2
      have l_c3 : wr.cell? ⟨gl, 3, none⟩ = some (.slice A2 I.cost.length a2) := (HR.out.lst.cell 3).trans rfl
      have l_f3 := HR.out.lst.frozen 3
      have l_c4 : wr.cell? ⟨gl, 4, none⟩ = some (.int .i64 I.size) := (HR.out.lst.cell 4).trans rfl
      have l_f4 := HR.out.lst.frozen 4
      have l_c5 : wr.cell? ⟨gl, 5, none⟩ = some (.slice A3 I.sets.length a3) := (HR.out.lst.cell 5).trans rfl
      have l_f5 := HR.out.lst.frozen 5
      have l_c6 : wr.cell? ⟨gl, 6, none⟩ = some (.int .i64 T.kind) := (HR.out.lst.cell 6).trans rfl
      have l_f6 := HR.out.lst.frozen 6
      have l_c7 : wr.cell? ⟨gl, 7, none⟩ = some (.int .i64 T.cap) := (HR.out.lst.cell 7).trans rfl
      have l_f7 := HR.out.lst.frozen 7
      have l_c8 : wr.cell? ⟨gl, 8, none⟩ = some (.slice D1 T.items.length d1) := (HR.out.lst.cell 8).trans rfl
      have l_f8 := HR.out.lst.frozen 8
      have l_c9 : wr.cell? ⟨gl, 9, none⟩ = some (.slice D2 T.cost.length d2) := (HR.out.lst.cell 9).trans rfl
      have l_f9 := HR.out.lst.frozen 9
      have l_c10 : wr.cell? ⟨gl, 10, none⟩ = some (.int .i64 T.size) := (HR.out.lst.cell 10).trans rfl
      have l_f10 := HR.out.lst.frozen 10
      have l_c11 : wr.cell? ⟨gl, 11, none⟩ = some (.slice D3 T.sets.length d3) := (HR.out.lst.cell 11).trans rfl
      have l_f11 := HR.out.lst.frozen 11
      go_wp2_with fail
      have nb : Below wr.heap.size wr (wr.alloc (.cells #[.int .i64 I.kind, .int .i64 I.cap, .slice A1 I.items.length a1, .slice A2 I.cost.length a2, .int .i64 I.size, .slice A3 I.sets.length a3] 26)) := bl_alloc (Below.refl _ _) _
      (with_reducible refine (insts_c I A1 A2 A3 a1 a2 a3 _ (HI.out.below (bl_alloc HR.out.b _))).mono ?_); rintro e u2 ⟨E1, e1, E2, e2, E3, e3, F1, f1, F2, f2, F3, f3, rfl, ⟨oa, ob⟩, hb2⟩
      have b2 := bl_step nb hb2
      have OA0 := Lib.hid oa
      have OB0 := Lib.hid ob
      clear oa ob l_z l_c0 l_f0 l_c1 l_f1 l_c2 l_f2 l_c3 l_f3 l_c4 l_f4 l_c5 l_f5 l_c6 l_f6 l_c7 l_f7 l_c8 l_f8 l_c9 l_f9 l_c10 l_f10 l_c11 l_f11
      go_wp2_with fail
      have nc : Below u2.heap.size u2 ((u2.alloc (.cells #[.int .i64 (cutF I).kind, .int .i64 (cutF I).cap, .slice E1 (cutF I).items.length e1, .slice E2 (cutF I).cost.length e2, .int .i64 (cutF I).size, .slice E3 (cutF I).sets.length e3] 33)).alloc (.cells #[.int .i64 (cutF I).kind, .int .i64 (cutF I).cap, .slice F1 (cutF I).items.length f1, .slice F2 (cutF I).cost.length f2, .int .i64 (cutF I).size, .slice F3 (cutF I).sets.length f3] 36)) := bl_alloc (bl_alloc (Below.refl _ _) _) _
      have OA := Lib.hid (OA0.out.below nc)
      have OB := Lib.hid (OB0.out.below nc)
      have Ba : Blk ((u2.alloc (.cells #[.int .i64 (cutF I).kind, .int .i64 (cutF I).cap, .slice E1 (cutF I).items.length e1, .slice E2 (cutF I).cost.length e2, .int .i64 (cutF I).size, .slice E3 (cutF I).sets.length e3] 33)).alloc (.cells #[.int .i64 (cutF I).kind, .int .i64 (cutF I).cap, .slice F1 (cutF I).items.length f1, .slice F2 (cutF I).cost.length f2, .int .i64 (cutF I).size, .slice F3 (cutF I).sets.length f3] 36)) u2.heap.size 33 #[.int .i64 (cutF I).kind, .int .i64 (cutF I).cap, .slice E1 (cutF I).items.length e1, .slice E2 (cutF I).cost.length e2, .int .i64 (cutF I).size, .slice E3 (cutF I).sets.length e3] := (Blk.new _ _ _).alloc _
      have Bb : Blk ((u2.alloc (.cells #[.int .i64 (cutF I).kind, .int .i64 (cutF I).cap, .slice E1 (cutF I).items.length e1, .slice E2 (cutF I).cost.length e2, .int .i64 (cutF I).size, .slice E3 (cutF I).sets.length e3] 33)).alloc (.cells #[.int .i64 (cutF I).kind, .int .i64 (cutF I).cap, .slice F1 (cutF I).items.length f1, .slice F2 (cutF I).cost.length f2, .int .i64 (cutF I).size, .slice F3 (cutF I).sets.length f3] 36)) (u2.heap.size + 1) 36 #[.int .i64 (cutF I).kind, .int .i64 (cutF I).cap, .slice F1 (cutF I).items.length f1, .slice F2 (cutF I).cost.length f2, .int .i64 (cutF I).size, .slice F3 (cutF I).sets.length f3] := Blk.new' (by simp) _ _
      replace HR := Lib.hid (HR.out.below (bl_step b2 nc))
      clear OA0 OB0 nc b2 hb2 nb
      generalize (u2.alloc (.cells #[.int .i64 (cutF I).kind, .int .i64 (cutF I).cap, .slice E1 (cutF I).items.length e1, .slice E2 (cutF I).cost.length e2, .int .i64 (cutF I).size, .slice E3 (cutF I).sets.length e3] 33)).alloc (.cells #[.int .i64 (cutF I).kind, .int .i64 (cutF I).cap, .slice F1 (cutF I).items.length f1, .slice F2 (cutF I).cost.length f2, .int .i64 (cutF I).size, .slice F3 (cutF I).sets.length f3] 36) = v0 at OA OB Ba Bb HR ⊢
      generalize u2.heap.size = ga at Ba Bb ⊢
      obtain ⟨z, hz⟩ : ∃ z, checkR (cutF I) = z := ⟨_, rfl⟩
      obtain ⟨y, hy⟩ : ∃ y, nR (cutF I) = y := ⟨_, rfl⟩
      have K1 := Lib.hid (fun w' (hb : Below v0.heap.size v0 w') => check_any (cutF I) _ _ _ _ _ _ w' (OA.out.below hb).inst)
      rw [hz] at K1
      have K2 := Lib.hid (fun w' (hb : Below v0.heap.size v0 w') => bcheck_any (cutF I) _ _ _ _ _ _ w' (OB.out.below hb).inst)
      rw [hz] at K2
      have K3 := Lib.hid (fun w' (hb : Below v0.heap.size v0 w') => n_any (cutF I) _ _ _ _ _ _ w' (OA.out.below hb).inst)
      rw [hy] at K3
      have K4 := Lib.hid (fun w' (hb : Below v0.heap.size v0 w') => bn_any (cutF I) _ _ _ _ _ _ w' (OB.out.below hb).inst)
      rw [hy] at K4
      clear hz hy OA OB
      have p0_z : ga < v0.heap.size := Ba.lt
      have p0_c0 : v0.cell? ⟨ga, 0, none⟩ = some (.int .i64 (cutF I).kind) := (Ba.cell 0).trans rfl
      have p0_f0 := Ba.frozen 0
      have p0_c1 : v0.cell? ⟨ga, 1, none⟩ = some (.int .i64 (cutF I).cap) := (Ba.cell 1).trans rfl
      have p0_f1 := Ba.frozen 1
      have p0_c2 : v0.cell? ⟨ga, 2, none⟩ = some (.slice E1 (cutF I).items.length e1) := (Ba.cell 2).trans rfl
      have p0_f2 := Ba.frozen 2
      have p0_c3 : v0.cell? ⟨ga, 3, none⟩ = some (.slice E2 (cutF I).cost.length e2) := (Ba.cell 3).trans rfl
      have p0_f3 := Ba.frozen 3
      have p0_c4 : v0.cell? ⟨ga, 4, none⟩ = some (.int .i64 (cutF I).size) := (Ba.cell 4).trans rfl
      have p0_f4 := Ba.frozen 4
      have p0_c5 : v0.cell? ⟨ga, 5, none⟩ = some (.slice E3 (cutF I).sets.length e3) := (Ba.cell 5).trans rfl
      have p0_f5 := Ba.frozen 5
      have q0_z : ga + 1 < v0.heap.size := Bb.lt
      have q0_c0 : v0.cell? ⟨ga + 1, 0, none⟩ = some (.int .i64 (cutF I).kind) := (Bb.cell 0).trans rfl
      have q0_f0 := Bb.frozen 0
      have q0_c1 : v0.cell? ⟨ga + 1, 1, none⟩ = some (.int .i64 (cutF I).cap) := (Bb.cell 1).trans rfl
      have q0_f1 := Bb.frozen 1
      have q0_c2 : v0.cell? ⟨ga + 1, 2, none⟩ = some (.slice F1 (cutF I).items.length f1) := (Bb.cell 2).trans rfl
      have q0_f2 := Bb.frozen 2
      have q0_c3 : v0.cell? ⟨ga + 1, 3, none⟩ = some (.slice F2 (cutF I).cost.length f2) := (Bb.cell 3).trans rfl
      have q0_f3 := Bb.frozen 3
      have q0_c4 : v0.cell? ⟨ga + 1, 4, none⟩ = some (.int .i64 (cutF I).size) := (Bb.cell 4).trans rfl
      have q0_f4 := Bb.frozen 4
      have q0_c5 : v0.cell? ⟨ga + 1, 5, none⟩ = some (.slice F3 (cutF I).sets.length f3) := (Bb.cell 5).trans rfl
      have q0_f5 := Bb.frozen 5
      go_region_held3 (fun w' => w'.cell? ⟨ga, 0, none⟩ = some (.int .i64 (cutF I).kind) ∧ w'.cell? ⟨ga, 1, none⟩ = some (.int .i64 (cutF I).cap) ∧ w'.cell? ⟨ga, 2, none⟩ = some (.slice E1 (cutF I).items.length e1) ∧ w'.cell? ⟨ga, 3, none⟩ = some (.slice E2 (cutF I).cost.length e2) ∧ w'.cell? ⟨ga, 4, none⟩ = some (.int .i64 (cutF I).size) ∧ w'.cell? ⟨ga, 5, none⟩ = some (.slice E3 (cutF I).sets.length e3) ∧ w'.cell? ⟨ga + 1, 0, none⟩ = some (.int .i64 (cutF I).kind) ∧ w'.cell? ⟨ga + 1, 1, none⟩ = some (.int .i64 (cutF I).cap) ∧ w'.cell? ⟨ga + 1, 2, none⟩ = some (.slice F1 (cutF I).items.length f1) ∧ w'.cell? ⟨ga + 1, 3, none⟩ = some (.slice F2 (cutF I).cost.length f2) ∧ w'.cell? ⟨ga + 1, 4, none⟩ = some (.int .i64 (cutF I).size) ∧ w'.cell? ⟨ga + 1, 5, none⟩ = some (.slice F3 (cutF I).sets.length f3)) (go_keep) (first | (go_at_call 9; (with_reducible refine (K1.out _ (bl_drew (Below.refl _ _))).mono ?_); rintro e x1 ⟨rfl, hx1⟩; have s1 := bl_step (bl_drew (Below.refl _ _)) hx1; clear p0_z p0_c0 p0_f0 p0_c1 p0_f1 p0_c2 p0_f2 p0_c3 p0_f3 p0_c4 p0_f4 p0_c5 p0_f5 q0_z q0_c0 q0_f0 q0_c1 q0_f1 q0_c2 q0_f2 q0_c3 q0_f3 q0_c4 q0_f4 q0_c5 q0_f5; have Ba1 := Ba.below s1; have Bb1 := Bb.below s1; have p1_z : ga < x1.heap.size := Ba1.lt; have p1_c0 : x1.cell? ⟨ga, 0, none⟩ = some (.int .i64 (cutF I).kind) := (Ba1.cell 0).trans rfl; have p1_f0 := Ba1.frozen 0; have p1_c1 : x1.cell? ⟨ga, 1, none⟩ = some (.int .i64 (cutF I).cap) := (Ba1.cell 1).trans rfl; have p1_f1 := Ba1.frozen 1; have p1_c2 : x1.cell? ⟨ga, 2, none⟩ = some (.slice E1 (cutF I).items.length e1) := (Ba1.cell 2).trans rfl; have p1_f2 := Ba1.frozen 2; have p1_c3 : x1.cell? ⟨ga, 3, none⟩ = some (.slice E2 (cutF I).cost.length e2) := (Ba1.cell 3).trans rfl; have p1_f3 := Ba1.frozen 3; have p1_c4 : x1.cell? ⟨ga, 4, none⟩ = some (.int .i64 (cutF I).size) := (Ba1.cell 4).trans rfl; have p1_f4 := Ba1.frozen 4; have p1_c5 : x1.cell? ⟨ga, 5, none⟩ = some (.slice E3 (cutF I).sets.length e3) := (Ba1.cell 5).trans rfl; have p1_f5 := Ba1.frozen 5; have q1_z : ga + 1 < x1.heap.size := Bb1.lt; have q1_c0 : x1.cell? ⟨ga + 1, 0, none⟩ = some (.int .i64 (cutF I).kind) := (Bb1.cell 0).trans rfl; have q1_f0 := Bb1.frozen 0; have q1_c1 : x1.cell? ⟨ga + 1, 1, none⟩ = some (.int .i64 (cutF I).cap) := (Bb1.cell 1).trans rfl; have q1_f1 := Bb1.frozen 1; have q1_c2 : x1.cell? ⟨ga + 1, 2, none⟩ = some (.slice F1 (cutF I).items.length f1) := (Bb1.cell 2).trans rfl; have q1_f2 := Bb1.frozen 2; have q1_c3 : x1.cell? ⟨ga + 1, 3, none⟩ = some (.slice F2 (cutF I).cost.length f2) := (Bb1.cell 3).trans rfl; have q1_f3 := Bb1.frozen 3; have q1_c4 : x1.cell? ⟨ga + 1, 4, none⟩ = some (.int .i64 (cutF I).size) := (Bb1.cell 4).trans rfl; have q1_f4 := Bb1.frozen 4; have q1_c5 : x1.cell? ⟨ga + 1, 5, none⟩ = some (.slice F3 (cutF I).sets.length f3) := (Bb1.cell 5).trans rfl; have q1_f5 := Bb1.frozen 5) | (go_at_call 10; (with_reducible refine (K2.out _ s1).mono ?_); rintro e x2 ⟨rfl, hx2⟩; have s2 := bl_step s1 hx2; clear p1_z p1_c0 p1_f0 p1_c1 p1_f1 p1_c2 p1_f2 p1_c3 p1_f3 p1_c4 p1_f4 p1_c5 p1_f5 q1_z q1_c0 q1_f0 q1_c1 q1_f1 q1_c2 q1_f2 q1_c3 q1_f3 q1_c4 q1_f4 q1_c5 q1_f5; have Ba2 := Ba.below s2; have Bb2 := Bb.below s2; have p2_z : ga < x2.heap.size := Ba2.lt; have p2_c0 : x2.cell? ⟨ga, 0, none⟩ = some (.int .i64 (cutF I).kind) := (Ba2.cell 0).trans rfl; have p2_f0 := Ba2.frozen 0; have p2_c1 : x2.cell? ⟨ga, 1, none⟩ = some (.int .i64 (cutF I).cap) := (Ba2.cell 1).trans rfl; have p2_f1 := Ba2.frozen 1; have p2_c2 : x2.cell? ⟨ga, 2, none⟩ = some (.slice E1 (cutF I).items.length e1) := (Ba2.cell 2).trans rfl; have p2_f2 := Ba2.frozen 2; have p2_c3 : x2.cell? ⟨ga, 3, none⟩ = some (.slice E2 (cutF I).cost.length e2) := (Ba2.cell 3).trans rfl; have p2_f3 := Ba2.frozen 3; have p2_c4 : x2.cell? ⟨ga, 4, none⟩ = some (.int .i64 (cutF I).size) := (Ba2.cell 4).trans rfl; have p2_f4 := Ba2.frozen 4; have p2_c5 : x2.cell? ⟨ga, 5, none⟩ = some (.slice E3 (cutF I).sets.length e3) := (Ba2.cell 5).trans rfl; have p2_f5 := Ba2.frozen 5; have q2_z : ga + 1 < x2.heap.size := Bb2.lt; have q2_c0 : x2.cell? ⟨ga + 1, 0, none⟩ = some (.int .i64 (cutF I).kind) := (Bb2.cell 0).trans rfl; have q2_f0 := Bb2.frozen 0; have q2_c1 : x2.cell? ⟨ga + 1, 1, none⟩ = some (.int .i64 (cutF I).cap) := (Bb2.cell 1).trans rfl; have q2_f1 := Bb2.frozen 1; have q2_c2 : x2.cell? ⟨ga + 1, 2, none⟩ = some (.slice F1 (cutF I).items.length f1) := (Bb2.cell 2).trans rfl; have q2_f2 := Bb2.frozen 2; have q2_c3 : x2.cell? ⟨ga + 1, 3, none⟩ = some (.slice F2 (cutF I).cost.length f2) := (Bb2.cell 3).trans rfl; have q2_f3 := Bb2.frozen 3; have q2_c4 : x2.cell? ⟨ga + 1, 4, none⟩ = some (.int .i64 (cutF I).size) := (Bb2.cell 4).trans rfl; have q2_f4 := Bb2.frozen 4; have q2_c5 : x2.cell? ⟨ga + 1, 5, none⟩ = some (.slice F3 (cutF I).sets.length f3) := (Bb2.cell 5).trans rfl; have q2_f5 := Bb2.frozen 5) | (go_at_call 11; (with_reducible refine (K3.out _ s2).mono ?_); rintro e x3 ⟨rfl, hx3⟩; have s3 := bl_step s2 hx3; clear p2_z p2_c0 p2_f0 p2_c1 p2_f1 p2_c2 p2_f2 p2_c3 p2_f3 p2_c4 p2_f4 p2_c5 p2_f5 q2_z q2_c0 q2_f0 q2_c1 q2_f1 q2_c2 q2_f2 q2_c3 q2_f3 q2_c4 q2_f4 q2_c5 q2_f5; have Ba3 := Ba.below s3; have Bb3 := Bb.below s3; have p3_z : ga < x3.heap.size := Ba3.lt; have p3_c0 : x3.cell? ⟨ga, 0, none⟩ = some (.int .i64 (cutF I).kind) := (Ba3.cell 0).trans rfl; have p3_f0 := Ba3.frozen 0; have p3_c1 : x3.cell? ⟨ga, 1, none⟩ = some (.int .i64 (cutF I).cap) := (Ba3.cell 1).trans rfl; have p3_f1 := Ba3.frozen 1; have p3_c2 : x3.cell? ⟨ga, 2, none⟩ = some (.slice E1 (cutF I).items.length e1) := (Ba3.cell 2).trans rfl; have p3_f2 := Ba3.frozen 2; have p3_c3 : x3.cell? ⟨ga, 3, none⟩ = some (.slice E2 (cutF I).cost.length e2) := (Ba3.cell 3).trans rfl; have p3_f3 := Ba3.frozen 3; have p3_c4 : x3.cell? ⟨ga, 4, none⟩ = some (.int .i64 (cutF I).size) := (Ba3.cell 4).trans rfl; have p3_f4 := Ba3.frozen 4; have p3_c5 : x3.cell? ⟨ga, 5, none⟩ = some (.slice E3 (cutF I).sets.length e3) := (Ba3.cell 5).trans rfl; have p3_f5 := Ba3.frozen 5; have q3_z : ga + 1 < x3.heap.size := Bb3.lt; have q3_c0 : x3.cell? ⟨ga + 1, 0, none⟩ = some (.int .i64 (cutF I).kind) := (Bb3.cell 0).trans rfl; have q3_f0 := Bb3.frozen 0; have q3_c1 : x3.cell? ⟨ga + 1, 1, none⟩ = some (.int .i64 (cutF I).cap) := (Bb3.cell 1).trans rfl; have q3_f1 := Bb3.frozen 1; have q3_c2 : x3.cell? ⟨ga + 1, 2, none⟩ = some (.slice F1 (cutF I).items.length f1) := (Bb3.cell 2).trans rfl; have q3_f2 := Bb3.frozen 2; have q3_c3 : x3.cell? ⟨ga + 1, 3, none⟩ = some (.slice F2 (cutF I).cost.length f2) := (Bb3.cell 3).trans rfl; have q3_f3 := Bb3.frozen 3; have q3_c4 : x3.cell? ⟨ga + 1, 4, none⟩ = some (.int .i64 (cutF I).size) := (Bb3.cell 4).trans rfl; have q3_f4 := Bb3.frozen 4; have q3_c5 : x3.cell? ⟨ga + 1, 5, none⟩ = some (.slice F3 (cutF I).sets.length f3) := (Bb3.cell 5).trans rfl; have q3_f5 := Bb3.frozen 5) | (go_at_call 12; (with_reducible refine (K4.out _ s3).mono ?_); rintro e x4 ⟨rfl, hx4⟩; have s4 := bl_step s3 hx4; clear p3_z p3_c0 p3_f0 p3_c1 p3_f1 p3_c2 p3_f2 p3_c3 p3_f3 p3_c4 p3_f4 p3_c5 p3_f5 q3_z q3_c0 q3_f0 q3_c1 q3_f1 q3_c2 q3_f2 q3_c3 q3_f3 q3_c4 q3_f4 q3_c5 q3_f5; have Ba4 := Ba.below s4; have Bb4 := Bb.below s4; have p4_z : ga < x4.heap.size := Ba4.lt; have p4_c0 : x4.cell? ⟨ga, 0, none⟩ = some (.int .i64 (cutF I).kind) := (Ba4.cell 0).trans rfl; have p4_f0 := Ba4.frozen 0; have p4_c1 : x4.cell? ⟨ga, 1, none⟩ = some (.int .i64 (cutF I).cap) := (Ba4.cell 1).trans rfl; have p4_f1 := Ba4.frozen 1; have p4_c2 : x4.cell? ⟨ga, 2, none⟩ = some (.slice E1 (cutF I).items.length e1) := (Ba4.cell 2).trans rfl; have p4_f2 := Ba4.frozen 2; have p4_c3 : x4.cell? ⟨ga, 3, none⟩ = some (.slice E2 (cutF I).cost.length e2) := (Ba4.cell 3).trans rfl; have p4_f3 := Ba4.frozen 3; have p4_c4 : x4.cell? ⟨ga, 4, none⟩ = some (.int .i64 (cutF I).size) := (Ba4.cell 4).trans rfl; have p4_f4 := Ba4.frozen 4; have p4_c5 : x4.cell? ⟨ga, 5, none⟩ = some (.slice E3 (cutF I).sets.length e3) := (Ba4.cell 5).trans rfl; have p4_f5 := Ba4.frozen 5; have q4_z : ga + 1 < x4.heap.size := Bb4.lt; have q4_c0 : x4.cell? ⟨ga + 1, 0, none⟩ = some (.int .i64 (cutF I).kind) := (Bb4.cell 0).trans rfl; have q4_f0 := Bb4.frozen 0; have q4_c1 : x4.cell? ⟨ga + 1, 1, none⟩ = some (.int .i64 (cutF I).cap) := (Bb4.cell 1).trans rfl; have q4_f1 := Bb4.frozen 1; have q4_c2 : x4.cell? ⟨ga + 1, 2, none⟩ = some (.slice F1 (cutF I).items.length f1) := (Bb4.cell 2).trans rfl; have q4_f2 := Bb4.frozen 2; have q4_c3 : x4.cell? ⟨ga + 1, 3, none⟩ = some (.slice F2 (cutF I).cost.length f2) := (Bb4.cell 3).trans rfl; have q4_f3 := Bb4.frozen 3; have q4_c4 : x4.cell? ⟨ga + 1, 4, none⟩ = some (.int .i64 (cutF I).size) := (Bb4.cell 4).trans rfl; have q4_f4 := Bb4.frozen 4; have q4_c5 : x4.cell? ⟨ga + 1, 5, none⟩ = some (.slice F3 (cutF I).sets.length f3) := (Bb4.cell 5).trans rfl; have q4_f5 := Bb4.frozen 5))
      go_wp2_with fail
      go_roundw
      case rel => exact ⟨1, rfl, by omega, Lib.hid (HR.out.below s4)⟩
      case measure => simp [intOf]
    · obtain ⟨_, HOT⟩ := HR.out.own
      replace HOT := Lib.hid HOT
      have l_z : gl < wr.heap.size := HR.out.lst.lt
      have l_c0 : wr.cell? ⟨gl, 0, none⟩ = some (.int .i64 I.kind) := (HR.out.lst.cell 0).trans rfl
      have l_f0 := HR.out.lst.frozen 0
      have l_c1 : wr.cell? ⟨gl, 1, none⟩ = some (.int .i64 I.cap) := (HR.out.lst.cell 1).trans rfl
      have l_f1 := HR.out.lst.frozen 1
      have l_c2 : wr.cell? ⟨gl, 2, none⟩ = some (.slice A1 I.items.length a1) := (HR.out.lst.cell 2).trans rfl
      have l_f2 := HR.out.lst.frozen 2
      have l_c3 : wr.cell? ⟨gl, 3, none⟩ = some (.slice A2 I.cost.length a2) := (HR.out.lst.cell 3).trans rfl
      have l_f3 := HR.out.lst.frozen 3
      have l_c4 : wr.cell? ⟨gl, 4, none⟩ = some (.int .i64 I.size) := (HR.out.lst.cell 4).trans rfl
      have l_f4 := HR.out.lst.frozen 4
      have l_c5 : wr.cell? ⟨gl, 5, none⟩ = some (.slice A3 I.sets.length a3) := (HR.out.lst.cell 5).trans rfl
      have l_f5 := HR.out.lst.frozen 5
      have l_c6 : wr.cell? ⟨gl, 6, none⟩ = some (.int .i64 T.kind) := (HR.out.lst.cell 6).trans rfl
      have l_f6 := HR.out.lst.frozen 6
      have l_c7 : wr.cell? ⟨gl, 7, none⟩ = some (.int .i64 T.cap) := (HR.out.lst.cell 7).trans rfl
      have l_f7 := HR.out.lst.frozen 7
      have l_c8 : wr.cell? ⟨gl, 8, none⟩ = some (.slice D1 T.items.length d1) := (HR.out.lst.cell 8).trans rfl
      have l_f8 := HR.out.lst.frozen 8
      have l_c9 : wr.cell? ⟨gl, 9, none⟩ = some (.slice D2 T.cost.length d2) := (HR.out.lst.cell 9).trans rfl
      have l_f9 := HR.out.lst.frozen 9
      have l_c10 : wr.cell? ⟨gl, 10, none⟩ = some (.int .i64 T.size) := (HR.out.lst.cell 10).trans rfl
      have l_f10 := HR.out.lst.frozen 10
      have l_c11 : wr.cell? ⟨gl, 11, none⟩ = some (.slice D3 T.sets.length d3) := (HR.out.lst.cell 11).trans rfl
      have l_f11 := HR.out.lst.frozen 11
      go_wp2_with fail
      have nb : Below wr.heap.size wr (wr.alloc (.cells #[.int .i64 T.kind, .int .i64 T.cap, .slice D1 T.items.length d1, .slice D2 T.cost.length d2, .int .i64 T.size, .slice D3 T.sets.length d3] 26)) := bl_alloc (Below.refl _ _) _
      (with_reducible refine (insts_c T D1 D2 D3 d1 d2 d3 _ (HOT.out.below (bl_alloc (Below.refl _ _) _)).inst).mono ?_); rintro e u2 ⟨E1, e1, E2, e2, E3, e3, F1, f1, F2, f2, F3, f3, rfl, ⟨oa, ob⟩, hb2⟩
      have b2 := bl_step nb hb2
      have OA0 := Lib.hid oa
      have OB0 := Lib.hid ob
      clear oa ob l_z l_c0 l_f0 l_c1 l_f1 l_c2 l_f2 l_c3 l_f3 l_c4 l_f4 l_c5 l_f5 l_c6 l_f6 l_c7 l_f7 l_c8 l_f8 l_c9 l_f9 l_c10 l_f10 l_c11 l_f11
      go_wp2_with fail
      have nc : Below u2.heap.size u2 ((u2.alloc (.cells #[.int .i64 (cutF T).kind, .int .i64 (cutF T).cap, .slice E1 (cutF T).items.length e1, .slice E2 (cutF T).cost.length e2, .int .i64 (cutF T).size, .slice E3 (cutF T).sets.length e3] 33)).alloc (.cells #[.int .i64 (cutF T).kind, .int .i64 (cutF T).cap, .slice F1 (cutF T).items.length f1, .slice F2 (cutF T).cost.length f2, .int .i64 (cutF T).size, .slice F3 (cutF T).sets.length f3] 36)) := bl_alloc (bl_alloc (Below.refl _ _) _) _
      have OA := Lib.hid (OA0.out.below nc)
      have OB := Lib.hid (OB0.out.below nc)
      have Ba : Blk ((u2.alloc (.cells #[.int .i64 (cutF T).kind, .int .i64 (cutF T).cap, .slice E1 (cutF T).items.length e1, .slice E2 (cutF T).cost.length e2, .int .i64 (cutF T).size, .slice E3 (cutF T).sets.length e3] 33)).alloc (.cells #[.int .i64 (cutF T).kind, .int .i64 (cutF T).cap, .slice F1 (cutF T).items.length f1, .slice F2 (cutF T).cost.length f2, .int .i64 (cutF T).size, .slice F3 (cutF T).sets.length f3] 36)) u2.heap.size 33 #[.int .i64 (cutF T).kind, .int .i64 (cutF T).cap, .slice E1 (cutF T).items.length e1, .slice E2 (cutF T).cost.length e2, .int .i64 (cutF T).size, .slice E3 (cutF T).sets.length e3] := (Blk.new _ _ _).alloc _
      have Bb : Blk ((u2.alloc (.cells #[.int .i64 (cutF T).kind, .int .i64 (cutF T).cap, .slice E1 (cutF T).items.length e1, .slice E2 (cutF T).cost.length e2, .int .i64 (cutF T).size, .slice E3 (cutF T).sets.length e3] 33)).alloc (.cells #[.int .i64 (cutF T).kind, .int .i64 (cutF T).cap, .slice F1 (cutF T).items.length f1, .slice F2 (cutF T).cost.length f2, .int .i64 (cutF T).size, .slice F3 (cutF T).sets.length f3] 36)) (u2.heap.size + 1) 36 #[.int .i64 (cutF T).kind, .int .i64 (cutF T).cap, .slice F1 (cutF T).items.length f1, .slice F2 (cutF T).cost.length f2, .int .i64 (cutF T).size, .slice F3 (cutF T).sets.length f3] := Blk.new' (by simp) _ _
      replace HR := Lib.hid (HR.out.below (bl_step b2 nc))
      clear OA0 OB0 nc b2 hb2 nb HOT
      generalize (u2.alloc (.cells #[.int .i64 (cutF T).kind, .int .i64 (cutF T).cap, .slice E1 (cutF T).items.length e1, .slice E2 (cutF T).cost.length e2, .int .i64 (cutF T).size, .slice E3 (cutF T).sets.length e3] 33)).alloc (.cells #[.int .i64 (cutF T).kind, .int .i64 (cutF T).cap, .slice F1 (cutF T).items.length f1, .slice F2 (cutF T).cost.length f2, .int .i64 (cutF T).size, .slice F3 (cutF T).sets.length f3] 36) = v0 at OA OB Ba Bb HR ⊢
      generalize u2.heap.size = ga at Ba Bb ⊢
      obtain ⟨z, hz⟩ : ∃ z, checkR (cutF T) = z := ⟨_, rfl⟩
      obtain ⟨y, hy⟩ : ∃ y, nR (cutF T) = y := ⟨_, rfl⟩
      have K1 := Lib.hid (fun w' (hb : Below v0.heap.size v0 w') => check_any (cutF T) _ _ _ _ _ _ w' (OA.out.below hb).inst)
      rw [hz] at K1
      have K2 := Lib.hid (fun w' (hb : Below v0.heap.size v0 w') => bcheck_any (cutF T) _ _ _ _ _ _ w' (OB.out.below hb).inst)
      rw [hz] at K2
      have K3 := Lib.hid (fun w' (hb : Below v0.heap.size v0 w') => n_any (cutF T) _ _ _ _ _ _ w' (OA.out.below hb).inst)
      rw [hy] at K3
      have K4 := Lib.hid (fun w' (hb : Below v0.heap.size v0 w') => bn_any (cutF T) _ _ _ _ _ _ w' (OB.out.below hb).inst)
      rw [hy] at K4
      clear hz hy OA OB
      have p0_z : ga < v0.heap.size := Ba.lt
      have p0_c0 : v0.cell? ⟨ga, 0, none⟩ = some (.int .i64 (cutF T).kind) := (Ba.cell 0).trans rfl
      have p0_f0 := Ba.frozen 0
      have p0_c1 : v0.cell? ⟨ga, 1, none⟩ = some (.int .i64 (cutF T).cap) := (Ba.cell 1).trans rfl
      have p0_f1 := Ba.frozen 1
      have p0_c2 : v0.cell? ⟨ga, 2, none⟩ = some (.slice E1 (cutF T).items.length e1) := (Ba.cell 2).trans rfl
      have p0_f2 := Ba.frozen 2
      have p0_c3 : v0.cell? ⟨ga, 3, none⟩ = some (.slice E2 (cutF T).cost.length e2) := (Ba.cell 3).trans rfl
      have p0_f3 := Ba.frozen 3
      have p0_c4 : v0.cell? ⟨ga, 4, none⟩ = some (.int .i64 (cutF T).size) := (Ba.cell 4).trans rfl
      have p0_f4 := Ba.frozen 4
      have p0_c5 : v0.cell? ⟨ga, 5, none⟩ = some (.slice E3 (cutF T).sets.length e3) := (Ba.cell 5).trans rfl
      have p0_f5 := Ba.frozen 5
      have q0_z : ga + 1 < v0.heap.size := Bb.lt
      have q0_c0 : v0.cell? ⟨ga + 1, 0, none⟩ = some (.int .i64 (cutF T).kind) := (Bb.cell 0).trans rfl
      have q0_f0 := Bb.frozen 0
      have q0_c1 : v0.cell? ⟨ga + 1, 1, none⟩ = some (.int .i64 (cutF T).cap) := (Bb.cell 1).trans rfl
      have q0_f1 := Bb.frozen 1
      have q0_c2 : v0.cell? ⟨ga + 1, 2, none⟩ = some (.slice F1 (cutF T).items.length f1) := (Bb.cell 2).trans rfl
      have q0_f2 := Bb.frozen 2
      have q0_c3 : v0.cell? ⟨ga + 1, 3, none⟩ = some (.slice F2 (cutF T).cost.length f2) := (Bb.cell 3).trans rfl
      have q0_f3 := Bb.frozen 3
      have q0_c4 : v0.cell? ⟨ga + 1, 4, none⟩ = some (.int .i64 (cutF T).size) := (Bb.cell 4).trans rfl
      have q0_f4 := Bb.frozen 4
      have q0_c5 : v0.cell? ⟨ga + 1, 5, none⟩ = some (.slice F3 (cutF T).sets.length f3) := (Bb.cell 5).trans rfl
      have q0_f5 := Bb.frozen 5
      go_region_held3 (fun w' => w'.cell? ⟨ga, 0, none⟩ = some (.int .i64 (cutF T).kind) ∧ w'.cell? ⟨ga, 1, none⟩ = some (.int .i64 (cutF T).cap) ∧ w'.cell? ⟨ga, 2, none⟩ = some (.slice E1 (cutF T).items.length e1) ∧ w'.cell? ⟨ga, 3, none⟩ = some (.slice E2 (cutF T).cost.length e2) ∧ w'.cell? ⟨ga, 4, none⟩ = some (.int .i64 (cutF T).size) ∧ w'.cell? ⟨ga, 5, none⟩ = some (.slice E3 (cutF T).sets.length e3) ∧ w'.cell? ⟨ga + 1, 0, none⟩ = some (.int .i64 (cutF T).kind) ∧ w'.cell? ⟨ga + 1, 1, none⟩ = some (.int .i64 (cutF T).cap) ∧ w'.cell? ⟨ga + 1, 2, none⟩ = some (.slice F1 (cutF T).items.length f1) ∧ w'.cell? ⟨ga + 1, 3, none⟩ = some (.slice F2 (cutF T).cost.length f2) ∧ w'.cell? ⟨ga + 1, 4, none⟩ = some (.int .i64 (cutF T).size) ∧ w'.cell? ⟨ga + 1, 5, none⟩ = some (.slice F3 (cutF T).sets.length f3)) (go_keep) (first | (go_at_call 9; (with_reducible refine (K1.out _ (bl_drew (Below.refl _ _))).mono ?_); rintro e x1 ⟨rfl, hx1⟩; have s1 := bl_step (bl_drew (Below.refl _ _)) hx1; clear p0_z p0_c0 p0_f0 p0_c1 p0_f1 p0_c2 p0_f2 p0_c3 p0_f3 p0_c4 p0_f4 p0_c5 p0_f5 q0_z q0_c0 q0_f0 q0_c1 q0_f1 q0_c2 q0_f2 q0_c3 q0_f3 q0_c4 q0_f4 q0_c5 q0_f5; have Ba1 := Ba.below s1; have Bb1 := Bb.below s1; have p1_z : ga < x1.heap.size := Ba1.lt; have p1_c0 : x1.cell? ⟨ga, 0, none⟩ = some (.int .i64 (cutF T).kind) := (Ba1.cell 0).trans rfl; have p1_f0 := Ba1.frozen 0; have p1_c1 : x1.cell? ⟨ga, 1, none⟩ = some (.int .i64 (cutF T).cap) := (Ba1.cell 1).trans rfl; have p1_f1 := Ba1.frozen 1; have p1_c2 : x1.cell? ⟨ga, 2, none⟩ = some (.slice E1 (cutF T).items.length e1) := (Ba1.cell 2).trans rfl; have p1_f2 := Ba1.frozen 2; have p1_c3 : x1.cell? ⟨ga, 3, none⟩ = some (.slice E2 (cutF T).cost.length e2) := (Ba1.cell 3).trans rfl; have p1_f3 := Ba1.frozen 3; have p1_c4 : x1.cell? ⟨ga, 4, none⟩ = some (.int .i64 (cutF T).size) := (Ba1.cell 4).trans rfl; have p1_f4 := Ba1.frozen 4; have p1_c5 : x1.cell? ⟨ga, 5, none⟩ = some (.slice E3 (cutF T).sets.length e3) := (Ba1.cell 5).trans rfl; have p1_f5 := Ba1.frozen 5; have q1_z : ga + 1 < x1.heap.size := Bb1.lt; have q1_c0 : x1.cell? ⟨ga + 1, 0, none⟩ = some (.int .i64 (cutF T).kind) := (Bb1.cell 0).trans rfl; have q1_f0 := Bb1.frozen 0; have q1_c1 : x1.cell? ⟨ga + 1, 1, none⟩ = some (.int .i64 (cutF T).cap) := (Bb1.cell 1).trans rfl; have q1_f1 := Bb1.frozen 1; have q1_c2 : x1.cell? ⟨ga + 1, 2, none⟩ = some (.slice F1 (cutF T).items.length f1) := (Bb1.cell 2).trans rfl; have q1_f2 := Bb1.frozen 2; have q1_c3 : x1.cell? ⟨ga + 1, 3, none⟩ = some (.slice F2 (cutF T).cost.length f2) := (Bb1.cell 3).trans rfl; have q1_f3 := Bb1.frozen 3; have q1_c4 : x1.cell? ⟨ga + 1, 4, none⟩ = some (.int .i64 (cutF T).size) := (Bb1.cell 4).trans rfl; have q1_f4 := Bb1.frozen 4; have q1_c5 : x1.cell? ⟨ga + 1, 5, none⟩ = some (.slice F3 (cutF T).sets.length f3) := (Bb1.cell 5).trans rfl; have q1_f5 := Bb1.frozen 5) | (go_at_call 10; (with_reducible refine (K2.out _ s1).mono ?_); rintro e x2 ⟨rfl, hx2⟩; have s2 := bl_step s1 hx2; clear p1_z p1_c0 p1_f0 p1_c1 p1_f1 p1_c2 p1_f2 p1_c3 p1_f3 p1_c4 p1_f4 p1_c5 p1_f5 q1_z q1_c0 q1_f0 q1_c1 q1_f1 q1_c2 q1_f2 q1_c3 q1_f3 q1_c4 q1_f4 q1_c5 q1_f5; have Ba2 := Ba.below s2; have Bb2 := Bb.below s2; have p2_z : ga < x2.heap.size := Ba2.lt; have p2_c0 : x2.cell? ⟨ga, 0, none⟩ = some (.int .i64 (cutF T).kind) := (Ba2.cell 0).trans rfl; have p2_f0 := Ba2.frozen 0; have p2_c1 : x2.cell? ⟨ga, 1, none⟩ = some (.int .i64 (cutF T).cap) := (Ba2.cell 1).trans rfl; have p2_f1 := Ba2.frozen 1; have p2_c2 : x2.cell? ⟨ga, 2, none⟩ = some (.slice E1 (cutF T).items.length e1) := (Ba2.cell 2).trans rfl; have p2_f2 := Ba2.frozen 2; have p2_c3 : x2.cell? ⟨ga, 3, none⟩ = some (.slice E2 (cutF T).cost.length e2) := (Ba2.cell 3).trans rfl; have p2_f3 := Ba2.frozen 3; have p2_c4 : x2.cell? ⟨ga, 4, none⟩ = some (.int .i64 (cutF T).size) := (Ba2.cell 4).trans rfl; have p2_f4 := Ba2.frozen 4; have p2_c5 : x2.cell? ⟨ga, 5, none⟩ = some (.slice E3 (cutF T).sets.length e3) := (Ba2.cell 5).trans rfl; have p2_f5 := Ba2.frozen 5; have q2_z : ga + 1 < x2.heap.size := Bb2.lt; have q2_c0 : x2.cell? ⟨ga + 1, 0, none⟩ = some (.int .i64 (cutF T).kind) := (Bb2.cell 0).trans rfl; have q2_f0 := Bb2.frozen 0; have q2_c1 : x2.cell? ⟨ga + 1, 1, none⟩ = some (.int .i64 (cutF T).cap) := (Bb2.cell 1).trans rfl; have q2_f1 := Bb2.frozen 1; have q2_c2 : x2.cell? ⟨ga + 1, 2, none⟩ = some (.slice F1 (cutF T).items.length f1) := (Bb2.cell 2).trans rfl; have q2_f2 := Bb2.frozen 2; have q2_c3 : x2.cell? ⟨ga + 1, 3, none⟩ = some (.slice F2 (cutF T).cost.length f2) := (Bb2.cell 3).trans rfl; have q2_f3 := Bb2.frozen 3; have q2_c4 : x2.cell? ⟨ga + 1, 4, none⟩ = some (.int .i64 (cutF T).size) := (Bb2.cell 4).trans rfl; have q2_f4 := Bb2.frozen 4; have q2_c5 : x2.cell? ⟨ga + 1, 5, none⟩ = some (.slice F3 (cutF T).sets.length f3) := (Bb2.cell 5).trans rfl; have q2_f5 := Bb2.frozen 5) | (go_at_call 11; (with_reducible refine (K3.out _ s2).mono ?_); rintro e x3 ⟨rfl, hx3⟩; have s3 := bl_step s2 hx3; clear p2_z p2_c0 p2_f0 p2_c1 p2_f1 p2_c2 p2_f2 p2_c3 p2_f3 p2_c4 p2_f4 p2_c5 p2_f5 q2_z q2_c0 q2_f0 q2_c1 q2_f1 q2_c2 q2_f2 q2_c3 q2_f3 q2_c4 q2_f4 q2_c5 q2_f5; have Ba3 := Ba.below s3; have Bb3 := Bb.below s3; have p3_z : ga < x3.heap.size := Ba3.lt; have p3_c0 : x3.cell? ⟨ga, 0, none⟩ = some (.int .i64 (cutF T).kind) := (Ba3.cell 0).trans rfl; have p3_f0 := Ba3.frozen 0; have p3_c1 : x3.cell? ⟨ga, 1, none⟩ = some (.int .i64 (cutF T).cap) := (Ba3.cell 1).trans rfl; have p3_f1 := Ba3.frozen 1; have p3_c2 : x3.cell? ⟨ga, 2, none⟩ = some (.slice E1 (cutF T).items.length e1) := (Ba3.cell 2).trans rfl; have p3_f2 := Ba3.frozen 2; have p3_c3 : x3.cell? ⟨ga, 3, none⟩ = some (.slice E2 (cutF T).cost.length e2) := (Ba3.cell 3).trans rfl; have p3_f3 := Ba3.frozen 3; have p3_c4 : x3.cell? ⟨ga, 4, none⟩ = some (.int .i64 (cutF T).size) := (Ba3.cell 4).trans rfl; have p3_f4 := Ba3.frozen 4; have p3_c5 : x3.cell? ⟨ga, 5, none⟩ = some (.slice E3 (cutF T).sets.length e3) := (Ba3.cell 5).trans rfl; have p3_f5 := Ba3.frozen 5; have q3_z : ga + 1 < x3.heap.size := Bb3.lt; have q3_c0 : x3.cell? ⟨ga + 1, 0, none⟩ = some (.int .i64 (cutF T).kind) := (Bb3.cell 0).trans rfl; have q3_f0 := Bb3.frozen 0; have q3_c1 : x3.cell? ⟨ga + 1, 1, none⟩ = some (.int .i64 (cutF T).cap) := (Bb3.cell 1).trans rfl; have q3_f1 := Bb3.frozen 1; have q3_c2 : x3.cell? ⟨ga + 1, 2, none⟩ = some (.slice F1 (cutF T).items.length f1) := (Bb3.cell 2).trans rfl; have q3_f2 := Bb3.frozen 2; have q3_c3 : x3.cell? ⟨ga + 1, 3, none⟩ = some (.slice F2 (cutF T).cost.length f2) := (Bb3.cell 3).trans rfl; have q3_f3 := Bb3.frozen 3; have q3_c4 : x3.cell? ⟨ga + 1, 4, none⟩ = some (.int .i64 (cutF T).size) := (Bb3.cell 4).trans rfl; have q3_f4 := Bb3.frozen 4; have q3_c5 : x3.cell? ⟨ga + 1, 5, none⟩ = some (.slice F3 (cutF T).sets.length f3) := (Bb3.cell 5).trans rfl; have q3_f5 := Bb3.frozen 5) | (go_at_call 12; (with_reducible refine (K4.out _ s3).mono ?_); rintro e x4 ⟨rfl, hx4⟩; have s4 := bl_step s3 hx4; clear p3_z p3_c0 p3_f0 p3_c1 p3_f1 p3_c2 p3_f2 p3_c3 p3_f3 p3_c4 p3_f4 p3_c5 p3_f5 q3_z q3_c0 q3_f0 q3_c1 q3_f1 q3_c2 q3_f2 q3_c3 q3_f3 q3_c4 q3_f4 q3_c5 q3_f5; have Ba4 := Ba.below s4; have Bb4 := Bb.below s4; have p4_z : ga < x4.heap.size := Ba4.lt; have p4_c0 : x4.cell? ⟨ga, 0, none⟩ = some (.int .i64 (cutF T).kind) := (Ba4.cell 0).trans rfl; have p4_f0 := Ba4.frozen 0; have p4_c1 : x4.cell? ⟨ga, 1, none⟩ = some (.int .i64 (cutF T).cap) := (Ba4.cell 1).trans rfl; have p4_f1 := Ba4.frozen 1; have p4_c2 : x4.cell? ⟨ga, 2, none⟩ = some (.slice E1 (cutF T).items.length e1) := (Ba4.cell 2).trans rfl; have p4_f2 := Ba4.frozen 2; have p4_c3 : x4.cell? ⟨ga, 3, none⟩ = some (.slice E2 (cutF T).cost.length e2) := (Ba4.cell 3).trans rfl; have p4_f3 := Ba4.frozen 3; have p4_c4 : x4.cell? ⟨ga, 4, none⟩ = some (.int .i64 (cutF T).size) := (Ba4.cell 4).trans rfl; have p4_f4 := Ba4.frozen 4; have p4_c5 : x4.cell? ⟨ga, 5, none⟩ = some (.slice E3 (cutF T).sets.length e3) := (Ba4.cell 5).trans rfl; have p4_f5 := Ba4.frozen 5; have q4_z : ga + 1 < x4.heap.size := Bb4.lt; have q4_c0 : x4.cell? ⟨ga + 1, 0, none⟩ = some (.int .i64 (cutF T).kind) := (Bb4.cell 0).trans rfl; have q4_f0 := Bb4.frozen 0; have q4_c1 : x4.cell? ⟨ga + 1, 1, none⟩ = some (.int .i64 (cutF T).cap) := (Bb4.cell 1).trans rfl; have q4_f1 := Bb4.frozen 1; have q4_c2 : x4.cell? ⟨ga + 1, 2, none⟩ = some (.slice F1 (cutF T).items.length f1) := (Bb4.cell 2).trans rfl; have q4_f2 := Bb4.frozen 2; have q4_c3 : x4.cell? ⟨ga + 1, 3, none⟩ = some (.slice F2 (cutF T).cost.length f2) := (Bb4.cell 3).trans rfl; have q4_f3 := Bb4.frozen 3; have q4_c4 : x4.cell? ⟨ga + 1, 4, none⟩ = some (.int .i64 (cutF T).size) := (Bb4.cell 4).trans rfl; have q4_f4 := Bb4.frozen 4; have q4_c5 : x4.cell? ⟨ga + 1, 5, none⟩ = some (.slice F3 (cutF T).sets.length f3) := (Bb4.cell 5).trans rfl; have q4_f5 := Bb4.frozen 5))
      go_wp2_with fail
      go_roundw
      case rel => exact ⟨2, rfl, by omega, Lib.hid (HR.out.below s4)⟩
      case measure => simp [intOf]
    · by_cases hk : I.kind = 0
      · have hk1 := hk
        have c0 : wr.cell? ⟨w.heap.size, 0, none⟩ = some (.int .i64 0) := (HR.out.box.cell 0).trans (by rw [hk]; rfl)
        have Bk : Blk wr w.heap.size 26 #[.int .i64 0, .int .i64 I.cap, .slice A1 I.items.length a1, .slice A2 I.cost.length a2, .int .i64 I.size, .slice A3 I.sets.length a3] := by have := HR.out.box; rw [hk] at this; exact this
        clear hk hk1
        clear c0
        have k_z : w.heap.size < wr.heap.size := Bk.lt
        have k_c0 : wr.cell? ⟨w.heap.size, 0, none⟩ = some (.int .i64 0) := (Bk.cell 0).trans rfl
        have k_f0 := Bk.frozen 0
        have k_c1 : wr.cell? ⟨w.heap.size, 1, none⟩ = some (.int .i64 I.cap) := (Bk.cell 1).trans rfl
        have k_f1 := Bk.frozen 1
        have k_c2 : wr.cell? ⟨w.heap.size, 2, none⟩ = some (.slice A1 I.items.length a1) := (Bk.cell 2).trans rfl
        have k_f2 := Bk.frozen 2
        have k_c3 : wr.cell? ⟨w.heap.size, 3, none⟩ = some (.slice A2 I.cost.length a2) := (Bk.cell 3).trans rfl
        have k_f3 := Bk.frozen 3
        have k_c4 : wr.cell? ⟨w.heap.size, 4, none⟩ = some (.int .i64 I.size) := (Bk.cell 4).trans rfl
        have k_f4 := Bk.frozen 4
        have k_c5 : wr.cell? ⟨w.heap.size, 5, none⟩ = some (.slice A3 I.sets.length a3) := (Bk.cell 5).trans rfl
        have k_f5 := Bk.frozen 5
        go_wp2_with fail
        (with_reducible refine (wakes_any _ (HN.out.below (bl_alloc HR.out.b _))).mono ?_); rintro e u5 ⟨rfl, hb5⟩
        have B5 := (Bk.below (bl_alloc (Below.refl _ _) _)).below hb5
        have bl5 := bl_step (bl_alloc HR.out.b _) hb5
        clear k_z k_c0 k_f0 k_c1 k_f1 k_c2 k_f2 k_c3 k_f3 k_c4 k_f4 k_c5 k_f5
        have k5_z : w.heap.size < u5.heap.size := B5.lt
        have k5_c0 : u5.cell? ⟨w.heap.size, 0, none⟩ = some (.int .i64 0) := (B5.cell 0).trans rfl
        have k5_f0 := B5.frozen 0
        have k5_c1 : u5.cell? ⟨w.heap.size, 1, none⟩ = some (.int .i64 I.cap) := (B5.cell 1).trans rfl
        have k5_f1 := B5.frozen 1
        have k5_c2 : u5.cell? ⟨w.heap.size, 2, none⟩ = some (.slice A1 I.items.length a1) := (B5.cell 2).trans rfl
        have k5_f2 := B5.frozen 2
        have k5_c3 : u5.cell? ⟨w.heap.size, 3, none⟩ = some (.slice A2 I.cost.length a2) := (B5.cell 3).trans rfl
        have k5_f3 := B5.frozen 3
        have k5_c4 : u5.cell? ⟨w.heap.size, 4, none⟩ = some (.int .i64 I.size) := (B5.cell 4).trans rfl
        have k5_f4 := B5.frozen 4
        have k5_c5 : u5.cell? ⟨w.heap.size, 5, none⟩ = some (.slice A3 I.sets.length a3) := (B5.cell 5).trans rfl
        have k5_f5 := B5.frozen 5
        go_wp2_with fail
        (with_reducible refine (name0 _ (HN.out.below bl5)).mono ?_); rintro e u6 ⟨rfl, hb6⟩
        go_wp2
        go_ret
        exact ⟨rfl, bl_step bl5 hb6⟩
      · have hn0 := hk
        clear hk
        by_cases hk : I.kind = 1
        · have hk1 := hk
          have c0 : wr.cell? ⟨w.heap.size, 0, none⟩ = some (.int .i64 1) := (HR.out.box.cell 0).trans (by rw [hk]; rfl)
          have Bk : Blk wr w.heap.size 26 #[.int .i64 1, .int .i64 I.cap, .slice A1 I.items.length a1, .slice A2 I.cost.length a2, .int .i64 I.size, .slice A3 I.sets.length a3] := by have := HR.out.box; rw [hk] at this; exact this
          clear hk hk1
          clear c0
          have k_z : w.heap.size < wr.heap.size := Bk.lt
          have k_c0 : wr.cell? ⟨w.heap.size, 0, none⟩ = some (.int .i64 1) := (Bk.cell 0).trans rfl
          have k_f0 := Bk.frozen 0
          have k_c1 : wr.cell? ⟨w.heap.size, 1, none⟩ = some (.int .i64 I.cap) := (Bk.cell 1).trans rfl
          have k_f1 := Bk.frozen 1
          have k_c2 : wr.cell? ⟨w.heap.size, 2, none⟩ = some (.slice A1 I.items.length a1) := (Bk.cell 2).trans rfl
          have k_f2 := Bk.frozen 2
          have k_c3 : wr.cell? ⟨w.heap.size, 3, none⟩ = some (.slice A2 I.cost.length a2) := (Bk.cell 3).trans rfl
          have k_f3 := Bk.frozen 3
          have k_c4 : wr.cell? ⟨w.heap.size, 4, none⟩ = some (.int .i64 I.size) := (Bk.cell 4).trans rfl
          have k_f4 := Bk.frozen 4
          have k_c5 : wr.cell? ⟨w.heap.size, 5, none⟩ = some (.slice A3 I.sets.length a3) := (Bk.cell 5).trans rfl
          have k_f5 := Bk.frozen 5
          go_wp2_with fail
          (with_reducible refine (wakes_any _ (HN.out.below (bl_alloc HR.out.b _))).mono ?_); rintro e u5 ⟨rfl, hb5⟩
          have B5 := (Bk.below (bl_alloc (Below.refl _ _) _)).below hb5
          have bl5 := bl_step (bl_alloc HR.out.b _) hb5
          clear k_z k_c0 k_f0 k_c1 k_f1 k_c2 k_f2 k_c3 k_f3 k_c4 k_f4 k_c5 k_f5
          have k5_z : w.heap.size < u5.heap.size := B5.lt
          have k5_c0 : u5.cell? ⟨w.heap.size, 0, none⟩ = some (.int .i64 1) := (B5.cell 0).trans rfl
          have k5_f0 := B5.frozen 0
          have k5_c1 : u5.cell? ⟨w.heap.size, 1, none⟩ = some (.int .i64 I.cap) := (B5.cell 1).trans rfl
          have k5_f1 := B5.frozen 1
          have k5_c2 : u5.cell? ⟨w.heap.size, 2, none⟩ = some (.slice A1 I.items.length a1) := (B5.cell 2).trans rfl
          have k5_f2 := B5.frozen 2
          have k5_c3 : u5.cell? ⟨w.heap.size, 3, none⟩ = some (.slice A2 I.cost.length a2) := (B5.cell 3).trans rfl
          have k5_f3 := B5.frozen 3
          have k5_c4 : u5.cell? ⟨w.heap.size, 4, none⟩ = some (.int .i64 I.size) := (B5.cell 4).trans rfl
          have k5_f4 := B5.frozen 4
          have k5_c5 : u5.cell? ⟨w.heap.size, 5, none⟩ = some (.slice A3 I.sets.length a3) := (B5.cell 5).trans rfl
          have k5_f5 := B5.frozen 5
          go_wp2_with fail
          (with_reducible refine (name1 _ (HN.out.below bl5)).mono ?_); rintro e u6 ⟨rfl, hb6⟩
          go_wp2
          go_ret
          exact ⟨rfl, bl_step bl5 hb6⟩
        · have hn1 := hk
          clear hk
          by_cases hk : I.kind = 2
          · have hk1 := hk
            have c0 : wr.cell? ⟨w.heap.size, 0, none⟩ = some (.int .i64 2) := (HR.out.box.cell 0).trans (by rw [hk]; rfl)
            have Bk : Blk wr w.heap.size 26 #[.int .i64 2, .int .i64 I.cap, .slice A1 I.items.length a1, .slice A2 I.cost.length a2, .int .i64 I.size, .slice A3 I.sets.length a3] := by have := HR.out.box; rw [hk] at this; exact this
            clear hk hk1
            clear c0
            have k_z : w.heap.size < wr.heap.size := Bk.lt
            have k_c0 : wr.cell? ⟨w.heap.size, 0, none⟩ = some (.int .i64 2) := (Bk.cell 0).trans rfl
            have k_f0 := Bk.frozen 0
            have k_c1 : wr.cell? ⟨w.heap.size, 1, none⟩ = some (.int .i64 I.cap) := (Bk.cell 1).trans rfl
            have k_f1 := Bk.frozen 1
            have k_c2 : wr.cell? ⟨w.heap.size, 2, none⟩ = some (.slice A1 I.items.length a1) := (Bk.cell 2).trans rfl
            have k_f2 := Bk.frozen 2
            have k_c3 : wr.cell? ⟨w.heap.size, 3, none⟩ = some (.slice A2 I.cost.length a2) := (Bk.cell 3).trans rfl
            have k_f3 := Bk.frozen 3
            have k_c4 : wr.cell? ⟨w.heap.size, 4, none⟩ = some (.int .i64 I.size) := (Bk.cell 4).trans rfl
            have k_f4 := Bk.frozen 4
            have k_c5 : wr.cell? ⟨w.heap.size, 5, none⟩ = some (.slice A3 I.sets.length a3) := (Bk.cell 5).trans rfl
            have k_f5 := Bk.frozen 5
            go_wp2_with fail
            (with_reducible refine (wakes_any _ (HN.out.below (bl_alloc HR.out.b _))).mono ?_); rintro e u5 ⟨rfl, hb5⟩
            have B5 := (Bk.below (bl_alloc (Below.refl _ _) _)).below hb5
            have bl5 := bl_step (bl_alloc HR.out.b _) hb5
            clear k_z k_c0 k_f0 k_c1 k_f1 k_c2 k_f2 k_c3 k_f3 k_c4 k_f4 k_c5 k_f5
            have k5_z : w.heap.size < u5.heap.size := B5.lt
            have k5_c0 : u5.cell? ⟨w.heap.size, 0, none⟩ = some (.int .i64 2) := (B5.cell 0).trans rfl
            have k5_f0 := B5.frozen 0
            have k5_c1 : u5.cell? ⟨w.heap.size, 1, none⟩ = some (.int .i64 I.cap) := (B5.cell 1).trans rfl
            have k5_f1 := B5.frozen 1
            have k5_c2 : u5.cell? ⟨w.heap.size, 2, none⟩ = some (.slice A1 I.items.length a1) := (B5.cell 2).trans rfl
            have k5_f2 := B5.frozen 2
            have k5_c3 : u5.cell? ⟨w.heap.size, 3, none⟩ = some (.slice A2 I.cost.length a2) := (B5.cell 3).trans rfl
            have k5_f3 := B5.frozen 3
            have k5_c4 : u5.cell? ⟨w.heap.size, 4, none⟩ = some (.int .i64 I.size) := (B5.cell 4).trans rfl
            have k5_f4 := B5.frozen 4
            have k5_c5 : u5.cell? ⟨w.heap.size, 5, none⟩ = some (.slice A3 I.sets.length a3) := (B5.cell 5).trans rfl
            have k5_f5 := B5.frozen 5
            go_wp2_with fail
            (with_reducible refine (name2 _ (HN.out.below bl5)).mono ?_); rintro e u6 ⟨rfl, hb6⟩
            go_wp2
            go_ret
            exact ⟨rfl, bl_step bl5 hb6⟩
          · have hn2 := hk
            clear hk
            by_cases hk : I.kind = 3
            · have hk1 := hk
              have c0 : wr.cell? ⟨w.heap.size, 0, none⟩ = some (.int .i64 3) := (HR.out.box.cell 0).trans (by rw [hk]; rfl)
              have Bk : Blk wr w.heap.size 26 #[.int .i64 3, .int .i64 I.cap, .slice A1 I.items.length a1, .slice A2 I.cost.length a2, .int .i64 I.size, .slice A3 I.sets.length a3] := by have := HR.out.box; rw [hk] at this; exact this
              clear hk hk1
              clear c0
              have k_z : w.heap.size < wr.heap.size := Bk.lt
              have k_c0 : wr.cell? ⟨w.heap.size, 0, none⟩ = some (.int .i64 3) := (Bk.cell 0).trans rfl
              have k_f0 := Bk.frozen 0
              have k_c1 : wr.cell? ⟨w.heap.size, 1, none⟩ = some (.int .i64 I.cap) := (Bk.cell 1).trans rfl
              have k_f1 := Bk.frozen 1
              have k_c2 : wr.cell? ⟨w.heap.size, 2, none⟩ = some (.slice A1 I.items.length a1) := (Bk.cell 2).trans rfl
              have k_f2 := Bk.frozen 2
              have k_c3 : wr.cell? ⟨w.heap.size, 3, none⟩ = some (.slice A2 I.cost.length a2) := (Bk.cell 3).trans rfl
              have k_f3 := Bk.frozen 3
              have k_c4 : wr.cell? ⟨w.heap.size, 4, none⟩ = some (.int .i64 I.size) := (Bk.cell 4).trans rfl
              have k_f4 := Bk.frozen 4
              have k_c5 : wr.cell? ⟨w.heap.size, 5, none⟩ = some (.slice A3 I.sets.length a3) := (Bk.cell 5).trans rfl
              have k_f5 := Bk.frozen 5
              go_wp2_with fail
              (with_reducible refine (wakes_any _ (HN.out.below (bl_alloc HR.out.b _))).mono ?_); rintro e u5 ⟨rfl, hb5⟩
              have B5 := (Bk.below (bl_alloc (Below.refl _ _) _)).below hb5
              have bl5 := bl_step (bl_alloc HR.out.b _) hb5
              clear k_z k_c0 k_f0 k_c1 k_f1 k_c2 k_f2 k_c3 k_f3 k_c4 k_f4 k_c5 k_f5
              have k5_z : w.heap.size < u5.heap.size := B5.lt
              have k5_c0 : u5.cell? ⟨w.heap.size, 0, none⟩ = some (.int .i64 3) := (B5.cell 0).trans rfl
              have k5_f0 := B5.frozen 0
              have k5_c1 : u5.cell? ⟨w.heap.size, 1, none⟩ = some (.int .i64 I.cap) := (B5.cell 1).trans rfl
              have k5_f1 := B5.frozen 1
              have k5_c2 : u5.cell? ⟨w.heap.size, 2, none⟩ = some (.slice A1 I.items.length a1) := (B5.cell 2).trans rfl
              have k5_f2 := B5.frozen 2
              have k5_c3 : u5.cell? ⟨w.heap.size, 3, none⟩ = some (.slice A2 I.cost.length a2) := (B5.cell 3).trans rfl
              have k5_f3 := B5.frozen 3
              have k5_c4 : u5.cell? ⟨w.heap.size, 4, none⟩ = some (.int .i64 I.size) := (B5.cell 4).trans rfl
              have k5_f4 := B5.frozen 4
              have k5_c5 : u5.cell? ⟨w.heap.size, 5, none⟩ = some (.slice A3 I.sets.length a3) := (B5.cell 5).trans rfl
              have k5_f5 := B5.frozen 5
              go_wp2_with fail
              (with_reducible refine (name3 _ (HN.out.below bl5)).mono ?_); rintro e u6 ⟨rfl, hb6⟩
              go_wp2
              go_ret
              exact ⟨rfl, bl_step bl5 hb6⟩
            · have hn3 := hk
              clear hk
              by_cases hc : I.kind < 0
              · have f0 : ¬ (0 : Int) ≤ I.kind := by omega
                have hk : ¬ (0 ≤ I.kind ∧ I.kind ≤ 3) := by omega
                have Bk : Blk wr w.heap.size 26 #[.int .i64 I.kind, .int .i64 I.cap, .slice A1 I.items.length a1, .slice A2 I.cost.length a2, .int .i64 I.size, .slice A3 I.sets.length a3] := HR.out.box
                have k_z : w.heap.size < wr.heap.size := Bk.lt
                have k_c0 : wr.cell? ⟨w.heap.size, 0, none⟩ = some (.int .i64 I.kind) := (Bk.cell 0).trans rfl
                have k_f0 := Bk.frozen 0
                have k_c1 : wr.cell? ⟨w.heap.size, 1, none⟩ = some (.int .i64 I.cap) := (Bk.cell 1).trans rfl
                have k_f1 := Bk.frozen 1
                have k_c2 : wr.cell? ⟨w.heap.size, 2, none⟩ = some (.slice A1 I.items.length a1) := (Bk.cell 2).trans rfl
                have k_f2 := Bk.frozen 2
                have k_c3 : wr.cell? ⟨w.heap.size, 3, none⟩ = some (.slice A2 I.cost.length a2) := (Bk.cell 3).trans rfl
                have k_f3 := Bk.frozen 3
                have k_c4 : wr.cell? ⟨w.heap.size, 4, none⟩ = some (.int .i64 I.size) := (Bk.cell 4).trans rfl
                have k_f4 := Bk.frozen 4
                have k_c5 : wr.cell? ⟨w.heap.size, 5, none⟩ = some (.slice A3 I.sets.length a3) := (Bk.cell 5).trans rfl
                have k_f5 := Bk.frozen 5
                clear hn0 hn1 hn2 hn3 hc
                go_wp2_with fail
                (with_reducible refine (wakes_any _ (HN.out.below (bl_alloc HR.out.b _))).mono ?_); rintro e u5 ⟨rfl, hb5⟩
                have B5 := (Bk.below (bl_alloc (Below.refl _ _) _)).below hb5
                have bl5 := bl_step (bl_alloc HR.out.b _) hb5
                clear k_z k_c0 k_f0 k_c1 k_f1 k_c2 k_f2 k_c3 k_f3 k_c4 k_f4 k_c5 k_f5
                have k5_z : w.heap.size < u5.heap.size := B5.lt
                have k5_c0 : u5.cell? ⟨w.heap.size, 0, none⟩ = some (.int .i64 I.kind) := (B5.cell 0).trans rfl
                have k5_f0 := B5.frozen 0
                have k5_c1 : u5.cell? ⟨w.heap.size, 1, none⟩ = some (.int .i64 I.cap) := (B5.cell 1).trans rfl
                have k5_f1 := B5.frozen 1
                have k5_c2 : u5.cell? ⟨w.heap.size, 2, none⟩ = some (.slice A1 I.items.length a1) := (B5.cell 2).trans rfl
                have k5_f2 := B5.frozen 2
                have k5_c3 : u5.cell? ⟨w.heap.size, 3, none⟩ = some (.slice A2 I.cost.length a2) := (B5.cell 3).trans rfl
                have k5_f3 := B5.frozen 3
                have k5_c4 : u5.cell? ⟨w.heap.size, 4, none⟩ = some (.int .i64 I.size) := (B5.cell 4).trans rfl
                have k5_f4 := B5.frozen 4
                have k5_c5 : u5.cell? ⟨w.heap.size, 5, none⟩ = some (.slice A3 I.sets.length a3) := (B5.cell 5).trans rfl
                have k5_f5 := B5.frozen 5
                go_wp2_with fail
                (with_reducible refine (nameN _ hk _ (HN.out.below bl5)).mono ?_); rintro e u6 ⟨rfl, hb6⟩
                go_wp2
                go_ret
                exact ⟨rfl, bl_step bl5 hb6⟩
              · have f0 : (0 : Int) ≤ I.kind := by omega
                have f1 : ¬ I.kind < (4 : Int) := by omega
                have hk : ¬ (0 ≤ I.kind ∧ I.kind ≤ 3) := by omega
                have Bk : Blk wr w.heap.size 26 #[.int .i64 I.kind, .int .i64 I.cap, .slice A1 I.items.length a1, .slice A2 I.cost.length a2, .int .i64 I.size, .slice A3 I.sets.length a3] := HR.out.box
                have k_z : w.heap.size < wr.heap.size := Bk.lt
                have k_c0 : wr.cell? ⟨w.heap.size, 0, none⟩ = some (.int .i64 I.kind) := (Bk.cell 0).trans rfl
                have k_f0 := Bk.frozen 0
                have k_c1 : wr.cell? ⟨w.heap.size, 1, none⟩ = some (.int .i64 I.cap) := (Bk.cell 1).trans rfl
                have k_f1 := Bk.frozen 1
                have k_c2 : wr.cell? ⟨w.heap.size, 2, none⟩ = some (.slice A1 I.items.length a1) := (Bk.cell 2).trans rfl
                have k_f2 := Bk.frozen 2
                have k_c3 : wr.cell? ⟨w.heap.size, 3, none⟩ = some (.slice A2 I.cost.length a2) := (Bk.cell 3).trans rfl
                have k_f3 := Bk.frozen 3
                have k_c4 : wr.cell? ⟨w.heap.size, 4, none⟩ = some (.int .i64 I.size) := (Bk.cell 4).trans rfl
                have k_f4 := Bk.frozen 4
                have k_c5 : wr.cell? ⟨w.heap.size, 5, none⟩ = some (.slice A3 I.sets.length a3) := (Bk.cell 5).trans rfl
                have k_f5 := Bk.frozen 5
                clear hn0 hn1 hn2 hn3 hc
                go_wp2_with fail
                (with_reducible refine (wakes_any _ (HN.out.below (bl_alloc HR.out.b _))).mono ?_); rintro e u5 ⟨rfl, hb5⟩
                have B5 := (Bk.below (bl_alloc (Below.refl _ _) _)).below hb5
                have bl5 := bl_step (bl_alloc HR.out.b _) hb5
                clear k_z k_c0 k_f0 k_c1 k_f1 k_c2 k_f2 k_c3 k_f3 k_c4 k_f4 k_c5 k_f5
                have k5_z : w.heap.size < u5.heap.size := B5.lt
                have k5_c0 : u5.cell? ⟨w.heap.size, 0, none⟩ = some (.int .i64 I.kind) := (B5.cell 0).trans rfl
                have k5_f0 := B5.frozen 0
                have k5_c1 : u5.cell? ⟨w.heap.size, 1, none⟩ = some (.int .i64 I.cap) := (B5.cell 1).trans rfl
                have k5_f1 := B5.frozen 1
                have k5_c2 : u5.cell? ⟨w.heap.size, 2, none⟩ = some (.slice A1 I.items.length a1) := (B5.cell 2).trans rfl
                have k5_f2 := B5.frozen 2
                have k5_c3 : u5.cell? ⟨w.heap.size, 3, none⟩ = some (.slice A2 I.cost.length a2) := (B5.cell 3).trans rfl
                have k5_f3 := B5.frozen 3
                have k5_c4 : u5.cell? ⟨w.heap.size, 4, none⟩ = some (.int .i64 I.size) := (B5.cell 4).trans rfl
                have k5_f4 := B5.frozen 4
                have k5_c5 : u5.cell? ⟨w.heap.size, 5, none⟩ = some (.slice A3 I.sets.length a3) := (B5.cell 5).trans rfl
                have k5_f5 := B5.frozen 5
                go_wp2_with fail
                (with_reducible refine (nameN _ hk _ (HN.out.below bl5)).mono ?_); rintro e u6 ⟨rfl, hb6⟩
                go_wp2
                go_ret
                exact ⟨rfl, bl_step bl5 hb6⟩
end Go.Proofs.YteddbdmddgmicaaDoor
