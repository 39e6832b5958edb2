/- same, and the walk of ParseReads. -/
import Derived.Test.YtklomjpnmmaogaaDoorPE
import Derived.Test.YtklomjpnmmaogaaDoorIK
import Derived.LoopTactic
import Derived.Test.YtklomjpnmmaogaaDoorPW
import Derived.Test.YtklomjpnmmaogaaDoorFG
namespace Go.Proofs.YtklomjpnmmaogaaDoor
open Go Go.RowKit
set_option linter.unusedVariables false
set_option linter.unusedSimpArgs false
set_option maxRecDepth 100000

theorem sinfo_A2 : (Tryd.prog.info? 83).map (fun i => (i.zero, i.size, i.bytes)) = some (some (.agg #[.int .i64 0, .int .i64 0]), 2, 16) := by kernel_rfl
theorem sinfo_S : (Tryd.prog.info? 84).map (fun i => (i.zero, i.size, i.bytes)) = some (some (.agg #[.int .i64 0, .slice none 0 0]), 2, 32) := by kernel_rfl
/-- The variables of same. -/
structure SmR (wr w : World) (I J : IData) (A1 A2 A3 D1 D2 D3 : Option Addr) (c1 c2 c3 d1 d2 d3 : Nat) (v1 v3 : Value) : Prop where
  pa : Blk wr w.heap.size 27 #[.int .i64 I.kind, .int .i64 I.cap, .slice A1 I.items.length c1, .slice A2 I.cost.length c2, .int .i64 I.size, .slice A3 I.sets.length c3]
  pb : Blk wr (w.heap.size + 1) 36 #[.int .i64 J.kind, .int .i64 J.cap, .slice D1 J.items.length d1, .slice D2 J.cost.length d2, .int .i64 J.size, .slice D3 J.sets.length d3]
  cx : Blk wr (w.heap.size + 1 + 1) 36 #[.int .i64 I.kind, .int .i64 I.cap, v1, .slice A2 I.cost.length c2, .int .i64 I.size, v3]
  b : Below w.heap.size w wr
section
variable {wr wq w : World} {I J : IData} {A1 A2 A3 D1 D2 D3 : Option Addr} {c1 c2 c3 d1 d2 d3 : Nat} {v1 v3 : Value}
theorem SmR.below (h : SmR wr w I J A1 A2 A3 D1 D2 D3 c1 c2 c3 d1 d2 d3 v1 v3) (hb : Below wr.heap.size wr wq) : SmR wq w I J A1 A2 A3 D1 D2 D3 c1 c2 c3 d1 d2 d3 v1 v3 := ⟨h.pa.below hb, h.pb.below hb, h.cx.below hb, bl_step h.b hb⟩
theorem SmR.size (h : SmR wr w I J A1 A2 A3 D1 D2 D3 c1 c2 c3 d1 d2 d3 v1 v3) : w.heap.size + 1 + 1 + 1 ≤ wr.heap.size := by have := h.cx.lt; omega
theorem SmR.grown (h : SmR wr w I J A1 A2 A3 D1 D2 D3 c1 c2 c3 d1 d2 d3 v1 v3) {v : Value} (hk : ∀ k, v.ownBlock = some k → w.heap.size + 1 + 1 + 1 ≤ k) (hg : wr.grownBy wq v.ownBlock) : SmR wq w I J A1 A2 A3 D1 D2 D3 c1 c2 c3 d1 d2 d3 v1 v3 :=
  ⟨h.pa.grown hg (fun e => by have := hk _ e.symm; omega), h.pb.grown hg (fun e => by have := hk _ e.symm; omega), h.cx.grown hg (fun e => by have := hk _ e.symm; omega), bl_grown h.b hg (fun k e => by have := hk k e; omega)⟩
theorem SmR.put2 (h : SmR wr w I J A1 A2 A3 D1 D2 D3 c1 c2 c3 d1 d2 d3 v1 v3) (u : Value) : SmR (wr.setCell ⟨w.heap.size + 1 + 1, 2, none⟩ u) w I J A1 A2 A3 D1 D2 D3 c1 c2 c3 d1 d2 d3 u v3 :=
  ⟨h.pa.far (p := ⟨w.heap.size + 1 + 1, 2, none⟩) (by show _ ≠ w.heap.size + 1 + 1; omega) u, h.pb.far (p := ⟨w.heap.size + 1 + 1, 2, none⟩) (by show _ ≠ w.heap.size + 1 + 1; omega) u, h.cx.put 2 u rfl, bl_set h.b (p := ⟨w.heap.size + 1 + 1, 2, none⟩) (by show _ ≤ w.heap.size + 1 + 1; omega) u⟩
theorem SmR.put5 (h : SmR wr w I J A1 A2 A3 D1 D2 D3 c1 c2 c3 d1 d2 d3 v1 v3) (u : Value) : SmR (wr.setCell ⟨w.heap.size + 1 + 1, 5, none⟩ u) w I J A1 A2 A3 D1 D2 D3 c1 c2 c3 d1 d2 d3 v1 u :=
  ⟨h.pa.far (p := ⟨w.heap.size + 1 + 1, 5, none⟩) (by show _ ≠ w.heap.size + 1 + 1; omega) u, h.pb.far (p := ⟨w.heap.size + 1 + 1, 5, none⟩) (by show _ ≠ w.heap.size + 1 + 1; omega) u, h.cx.put 5 u rfl, bl_set h.b (p := ⟨w.heap.size + 1 + 1, 5, none⟩) (by show _ ≤ w.heap.size + 1 + 1; omega) u⟩
end
theorem take_snoc {α : Type} {l : List α} {i : Nat} {x : α} (h : l[i]? = some x) : l.take (i + 1) = l.take i ++ [x] := by
  rw [List.take_add_one, h]; rfl
/-- The sets that are gathered: each shares its elements. -/
structure GaS (w : World) (B : Nat) (l : List (Int × List Int)) (j : Nat) (us : List (Value × Value)) : Prop where
  len : us.length = j
  all : ∀ (i : Nat) (p : Int × List Int) (u : Value × Value), l[i]? = some p → us[i]? = some u → u.1 = .int .i64 p.1 ∧ HdAt w B u.2 p.2
set_option maxHeartbeats 12800000 in
theorem same_any (I J : IData) (A1 A2 A3 D1 D2 D3 : Option Addr) (c1 c2 c3 d1 d2 d3 : Nat) (w : World) {B : Nat} (hI : InstAt w B I A1 c1 A2 c2 A3 c3) (hJ : InstAt w B J D1 d1 D2 d2 D3 d3) (hl1 : I.items.length ≤ 4096) (hl3 : I.sets.length ≤ 4096) :
    Calls Tryd.prog 10 #[.agg #[.int .i64 I.kind, .int .i64 I.cap, .slice A1 I.items.length c1, .slice A2 I.cost.length c2, .int .i64 I.size, .slice A3 I.sets.length c3], .agg #[.int .i64 J.kind, .int .i64 J.cap, .slice D1 J.items.length d1, .slice D2 J.cost.length d2, .int .i64 J.size, .slice D3 J.sets.length d3]] w fun e w' => e = .returned (.bool (eqD I J)) ∧ Below w.heap.size w w' := by
  have HI := Lib.hid hI
  have HJ := Lib.hid hJ
  obtain ⟨n1, m1⟩ := hI.n1
  obtain ⟨n3, m3⟩ := hI.n3
  have hB := hI.bd
  have S0 : SmR (((w.alloc (.cells #[.int .i64 I.kind, .int .i64 I.cap, .slice A1 I.items.length c1, .slice A2 I.cost.length c2, .int .i64 I.size, .slice A3 I.sets.length c3] 27)).alloc (.cells #[.int .i64 J.kind, .int .i64 J.cap, .slice D1 J.items.length d1, .slice D2 J.cost.length d2, .int .i64 J.size, .slice D3 J.sets.length d3] 36)).alloc (.cells #[.int .i64 I.kind, .int .i64 I.cap, .slice none 0 0, .slice A2 I.cost.length c2, .int .i64 I.size, .slice none 0 0] 36)) w I J A1 A2 A3 D1 D2 D3 c1 c2 c3 d1 d2 d3 (.slice none 0 0) (.slice none 0 0) :=
    ⟨((Blk.new _ _ _).alloc _).alloc _, (Blk.new' (by simp) _ _).alloc _, Blk.new' (by simp) _ _, bl_alloc (bl_alloc (bl_alloc (Below.refl _ _) _) _) _⟩
  clear hI hJ
  go_enter Tryd.func10, Tryd.ntmps10
  go_wp2_with fail
  go_loopw [22] (fun v22 wr => ∃ (i : Nat) (E : Option Addr) (e : Nat), v22 = .int .i64 i ∧ i ≤ I.items.length ∧ SmR wr w I J A1 A2 A3 D1 D2 D3 c1 c2 c3 d1 d2 d3 (.slice E i e) (.slice none 0 0) ∧ Hid (OwnP wr (w.heap.size + 1 + 1 + 1) 83 (.slice E i e) (I.items.take i))) (fun v22 _ => I.items.length - (intOf v22).toNat)
  case atStart => exact ⟨0, none, 0, rfl, Nat.zero_le _, S0, Lib.hid (by rw [List.take_zero]; exact own_nil _ _ _ _)⟩
  case round =>
    clear S0
    obtain ⟨i, E, e, rfl, hi, HS, HO⟩ := hrel
    by_cases hlt : i < I.items.length
    · obtain ⟨p, hp⟩ : ∃ p, I.items[i]? = some p := ⟨_, List.getElem?_eq_getElem hlt⟩
      obtain ⟨b, o, rfl, hb, hx, hy⟩ := HI.out.items.get hp
      have hx := (HS.b.cell (p := ⟨b, o + i * 2, none⟩) (by show b < _; omega)).trans hx
      have hy := (HS.b.cell (p := ⟨b, o + i * 2 + 1, none⟩) (by show b < _; omega)).trans hy
      have HP := Lib.hid hp
      have i1 : (i : Int) < (I.items.length : Int) := by omega
      have i0 : (0 : Int) ≤ (i : Int) := by omega
      have bA1 := bl_alloc (Below.refl wr.heap.size wr) (.cells #[.int .i64 p.1, .int .i64 p.2] 82)
      have bA2 := bl_alloc (Below.refl _ (wr.alloc (.cells #[.int .i64 p.1, .int .i64 p.2] 82))) (.cells #[.int .i64 p.1, .int .i64 p.2] 83)
      have NB : Blk ((wr.alloc (.cells #[.int .i64 p.1, .int .i64 p.2] 82)).alloc (.cells #[.int .i64 p.1, .int .i64 p.2] 83)) (wr.heap.size + 1) 83 #[.int .i64 p.1, .int .i64 p.2] := Blk.new' (by simp) _ _
      have hlen : (I.items.take i).length = i := by rw [List.length_take]; omega
      have S2 := (HS.below bA1).below bA2
      have O2 := own_below (own_below HO.out bA1) bA2
      obtain ⟨E2, e2, Y, hrun, O3, hgr⟩ := p_pair (ty := 33) Tryd.underlying33 sinfo_A2 (v := .slice E i e) O2 NB (by omega) S2.size
      have S3 := S2.grown (own_base O2) hgr
      rw [hlen] at hrun O3
      have O4 : Hid (OwnP (Y.setCell ⟨w.heap.size + 1 + 1, 2, none⟩ (.slice E2 (i + 1) e2)) (w.heap.size + 1 + 1 + 1) 83 (.slice E2 (i + 1) e2) (I.items.take (i + 1))) := Lib.hid (by rw [take_snoc HP.out]; exact OwnP.set (p := ⟨w.heap.size + 1 + 1, 2, none⟩) O3 (Nat.lt_succ_self _) _)
      have B0 := HS.pa
      have B2 := HS.cx
      have B3 := S3.cx
      have hs0 := HS.size
      clear hp NB hgr O2 O3 S2 bA1 bA2 HO hlen
      have a_z : w.heap.size < wr.heap.size := B0.lt
      have a_c0 : wr.cell? ⟨w.heap.size, 0, none⟩ = some (.int .i64 I.kind) := (B0.cell 0).trans rfl
      have a_f0 := B0.frozen 0
      have a_c1 : wr.cell? ⟨w.heap.size, 1, none⟩ = some (.int .i64 I.cap) := (B0.cell 1).trans rfl
      have a_f1 := B0.frozen 1
      have a_c2 : wr.cell? ⟨w.heap.size, 2, none⟩ = some (.slice (some ⟨b, o, none⟩) I.items.length c1) := (B0.cell 2).trans rfl
      have a_f2 := B0.frozen 2
      have a_c3 : wr.cell? ⟨w.heap.size, 3, none⟩ = some (.slice A2 I.cost.length c2) := (B0.cell 3).trans rfl
      have a_f3 := B0.frozen 3
      have a_c4 : wr.cell? ⟨w.heap.size, 4, none⟩ = some (.int .i64 I.size) := (B0.cell 4).trans rfl
      have a_f4 := B0.frozen 4
      have a_c5 : wr.cell? ⟨w.heap.size, 5, none⟩ = some (.slice A3 I.sets.length c3) := (B0.cell 5).trans rfl
      have a_f5 := B0.frozen 5
      have c_z : w.heap.size + 1 + 1 < wr.heap.size := B2.lt
      have c_c0 : wr.cell? ⟨w.heap.size + 1 + 1, 0, none⟩ = some (.int .i64 I.kind) := (B2.cell 0).trans rfl
      have c_f0 := B2.frozen 0
      have c_c1 : wr.cell? ⟨w.heap.size + 1 + 1, 1, none⟩ = some (.int .i64 I.cap) := (B2.cell 1).trans rfl
      have c_f1 := B2.frozen 1
      have c_c2 : wr.cell? ⟨w.heap.size + 1 + 1, 2, none⟩ = some (.slice E i e) := (B2.cell 2).trans rfl
      have c_f2 := B2.frozen 2
      have c_c3 : wr.cell? ⟨w.heap.size + 1 + 1, 3, none⟩ = some (.slice A2 I.cost.length c2) := (B2.cell 3).trans rfl
      have c_f3 := B2.frozen 3
      have c_c4 : wr.cell? ⟨w.heap.size + 1 + 1, 4, none⟩ = some (.int .i64 I.size) := (B2.cell 4).trans rfl
      have c_f4 := B2.frozen 4
      have c_c5 : wr.cell? ⟨w.heap.size + 1 + 1, 5, none⟩ = some (.slice none 0 0) := (B2.cell 5).trans rfl
      have c_f5 := B2.frozen 5
      have y_z : w.heap.size + 1 + 1 < Y.heap.size := B3.lt
      have y_c0 : Y.cell? ⟨w.heap.size + 1 + 1, 0, none⟩ = some (.int .i64 I.kind) := (B3.cell 0).trans rfl
      have y_f0 := B3.frozen 0
      have y_c1 : Y.cell? ⟨w.heap.size + 1 + 1, 1, none⟩ = some (.int .i64 I.cap) := (B3.cell 1).trans rfl
      have y_f1 := B3.frozen 1
      have y_c2 : Y.cell? ⟨w.heap.size + 1 + 1, 2, none⟩ = some (.slice E i e) := (B3.cell 2).trans rfl
      have y_f2 := B3.frozen 2
      have y_c3 : Y.cell? ⟨w.heap.size + 1 + 1, 3, none⟩ = some (.slice A2 I.cost.length c2) := (B3.cell 3).trans rfl
      have y_f3 := B3.frozen 3
      have y_c4 : Y.cell? ⟨w.heap.size + 1 + 1, 4, none⟩ = some (.int .i64 I.size) := (B3.cell 4).trans rfl
      have y_f4 := B3.frozen 4
      have y_c5 : Y.cell? ⟨w.heap.size + 1 + 1, 5, none⟩ = some (.slice none 0 0) := (B3.cell 5).trans rfl
      have y_f5 := B3.frozen 5
      go_wp2_with (at_builtin; refine list_app rfl (.tmp 27) (.tmp 33) 33 33 rfl (by exact hrun) ?_; clear hrun c_z c_c0 c_c1 c_c2 c_c3 c_c4 c_c5 c_f0 c_f1 c_f2 c_f3 c_f4 c_f5)
      go_roundw
      case rel => exact ⟨i + 1, E2, e2, by go_num, by omega, S3.put2 _, O4⟩
      case measure => simp only [intOf]; omega
    · obtain rfl : i = I.items.length := by omega
      rw [List.take_length] at HO
      have hin : ¬ (I.items.length : Int) < (I.items.length : Int) := by omega
      have B0 := HS.pa
      clear hlt hi
      have a_z : w.heap.size < wr.heap.size := B0.lt
      have a_c0 : wr.cell? ⟨w.heap.size, 0, none⟩ = some (.int .i64 I.kind) := (B0.cell 0).trans rfl
      have a_f0 := B0.frozen 0
      have a_c1 : wr.cell? ⟨w.heap.size, 1, none⟩ = some (.int .i64 I.cap) := (B0.cell 1).trans rfl
      have a_f1 := B0.frozen 1
      have a_c2 : wr.cell? ⟨w.heap.size, 2, none⟩ = some (.slice A1 I.items.length c1) := (B0.cell 2).trans rfl
      have a_f2 := B0.frozen 2
      have a_c3 : wr.cell? ⟨w.heap.size, 3, none⟩ = some (.slice A2 I.cost.length c2) := (B0.cell 3).trans rfl
      have a_f3 := B0.frozen 3
      have a_c4 : wr.cell? ⟨w.heap.size, 4, none⟩ = some (.int .i64 I.size) := (B0.cell 4).trans rfl
      have a_f4 := B0.frozen 4
      have a_c5 : wr.cell? ⟨w.heap.size, 5, none⟩ = some (.slice A3 I.sets.length c3) := (B0.cell 5).trans rfl
      have a_f5 := B0.frozen 5
      go_wp2_with fail
      clear B0 a_z a_c0 a_c1 a_c2 a_c3 a_c4 a_c5 a_f0 a_f1 a_f2 a_f3 a_f4 a_f5
      go_loopw [40] (fun v40 wr => ∃ (j : Nat) (us : List (Value × Value)) (F : Option Addr) (f : Nat), v40 = .int .i64 j ∧ j ≤ I.sets.length ∧ SmR wr w I J A1 A2 A3 D1 D2 D3 c1 c2 c3 d1 d2 d3 (.slice E I.items.length e) (.slice F j f) ∧ Hid (OwnP wr (w.heap.size + 1 + 1 + 1) 83 (.slice E I.items.length e) I.items) ∧ Hid (wr.ownsRow (w.heap.size + 1 + 1 + 1) 84 2 (.slice F j f) j (flat2 us)) ∧ Hid (GaS w B I.sets j us)) (fun v40 _ => I.sets.length - (intOf v40).toNat)
      case atStart => exact ⟨0, [], none, 0, rfl, Nat.zero_le _, HS, HO, Lib.hid (own_nil _ _ _ _), Lib.hid ⟨rfl, fun i p u _ h => by simp at h⟩⟩
      case round =>
        clear HS HO
        obtain ⟨j, us, F, f, rfl, hj, HS, HO, HR, HG⟩ := hrel
        by_cases hlt : j < I.sets.length
        · obtain ⟨p, hp⟩ : ∃ p, I.sets[j]? = some p := ⟨_, List.getElem?_eq_getElem hlt⟩
          obtain ⟨b, o, A', c', rfl, hb, hx, hy, k1, k2, hrd⟩ := HI.out.sets.get hp
          have hx := (HS.b.cell (p := ⟨b, o + j * 2, none⟩) (by show b < _; omega)).trans hx
          have hy := (HS.b.cell (p := ⟨b, o + j * 2 + 1, none⟩) (by show b < _; omega)).trans hy
          have HP := Lib.hid hp
          have HD : Hid (HdAt w B (.slice A' p.2.length c') p.2) := Lib.hid ⟨A', c', rfl, k1, k2, hrd⟩
          have i1 : (j : Int) < (I.sets.length : Int) := by omega
          have i0 : (0 : Int) ≤ (j : Int) := by omega
          have bA1 := bl_alloc (Below.refl wr.heap.size wr) (.cells #[.int .i64 p.1, .slice A' p.2.length c'] 80)
          have bA2 := bl_alloc (Below.refl _ (wr.alloc (.cells #[.int .i64 p.1, .slice A' p.2.length c'] 80))) (.cells #[.int .i64 p.1, .slice A' p.2.length c'] 84)
          have NB : Blk ((wr.alloc (.cells #[.int .i64 p.1, .slice A' p.2.length c'] 80)).alloc (.cells #[.int .i64 p.1, .slice A' p.2.length c'] 84)) (wr.heap.size + 1) 84 #[.int .i64 p.1, .slice A' p.2.length c'] := Blk.new' (by simp) _ _
          have S2 := (HS.below bA1).below bA2
          have O2 := own_below (own_below HO.out bA1) bA2
          have R2 := own_below (own_below HR.out bA1) bA2
          obtain ⟨v', Y, hrun, R3, hgr, _⟩ := run_app (ty := 34) (c := 1) Tryd.underlying34 sinfo_S rfl (by omega) R2 (preads2 NB) (by intro u hu; simp at hu; rcases hu with rfl | rfl <;> rfl) (by unfold maxLen; omega) (by omega) S2.size
          obtain ⟨F2, f2, rfl, _⟩ := own_slice R3
          have S3 := S2.grown (own_base R2) hgr
          have O3 : Hid (OwnP (Y.setCell ⟨w.heap.size + 1 + 1, 5, none⟩ (.slice F2 (j + 1) f2)) (w.heap.size + 1 + 1 + 1) 83 (.slice E I.items.length e) I.items) := Lib.hid (OwnP.set (p := ⟨w.heap.size + 1 + 1, 5, none⟩) (p_oth O2 R2 (by decide) hgr) (Nat.lt_succ_self _) _)
          have R4 : Hid ((Y.setCell ⟨w.heap.size + 1 + 1, 5, none⟩ (.slice F2 (j + 1) f2)).ownsRow (w.heap.size + 1 + 1 + 1) 84 2 (.slice F2 (j + 1) f2) (j + 1) (flat2 (us ++ [(.int .i64 p.1, .slice A' p.2.length c')]))) := Lib.hid (by rw [flat2_app]; exact own_far R3 (p := ⟨w.heap.size + 1 + 1, 5, none⟩) (fun e => by have := own_base R3 _ e; have : w.heap.size + 1 + 1 + 1 ≤ w.heap.size + 1 + 1 := this; omega) _)
          have G4 : Hid (GaS w B I.sets (j + 1) (us ++ [(.int .i64 p.1, .slice A' p.2.length c')])) := Lib.hid ⟨by rw [List.length_append, HG.out.len]; rfl, fun i q u a b => by
            rcases p_snoc b with ⟨b1, b2⟩ | ⟨rfl, rfl⟩
            · exact HG.out.all i q u a b2
            · rw [HG.out.len, HP.out] at a
              injection a with a
              subst a
              exact ⟨rfl, HD.out⟩⟩
          have B0 := HS.pa
          have B2 := HS.cx
          have B3 := S3.cx
          have hs0 := HS.size
          clear hp NB hgr O2 R2 R3 S2 bA1 bA2 HO HR HG HD hrd k1 k2
          have a_z : w.heap.size < wr.heap.size := B0.lt
          have a_c0 : wr.cell? ⟨w.heap.size, 0, none⟩ = some (.int .i64 I.kind) := (B0.cell 0).trans rfl
          have a_f0 := B0.frozen 0
          have a_c1 : wr.cell? ⟨w.heap.size, 1, none⟩ = some (.int .i64 I.cap) := (B0.cell 1).trans rfl
          have a_f1 := B0.frozen 1
          have a_c2 : wr.cell? ⟨w.heap.size, 2, none⟩ = some (.slice A1 I.items.length c1) := (B0.cell 2).trans rfl
          have a_f2 := B0.frozen 2
          have a_c3 : wr.cell? ⟨w.heap.size, 3, none⟩ = some (.slice A2 I.cost.length c2) := (B0.cell 3).trans rfl
          have a_f3 := B0.frozen 3
          have a_c4 : wr.cell? ⟨w.heap.size, 4, none⟩ = some (.int .i64 I.size) := (B0.cell 4).trans rfl
          have a_f4 := B0.frozen 4
          have a_c5 : wr.cell? ⟨w.heap.size, 5, none⟩ = some (.slice (some ⟨b, o, none⟩) I.sets.length c3) := (B0.cell 5).trans rfl
          have a_f5 := B0.frozen 5
          have c_z : w.heap.size + 1 + 1 < wr.heap.size := B2.lt
          have c_c0 : wr.cell? ⟨w.heap.size + 1 + 1, 0, none⟩ = some (.int .i64 I.kind) := (B2.cell 0).trans rfl
          have c_f0 := B2.frozen 0
          have c_c1 : wr.cell? ⟨w.heap.size + 1 + 1, 1, none⟩ = some (.int .i64 I.cap) := (B2.cell 1).trans rfl
          have c_f1 := B2.frozen 1
          have c_c2 : wr.cell? ⟨w.heap.size + 1 + 1, 2, none⟩ = some (.slice E I.items.length e) := (B2.cell 2).trans rfl
          have c_f2 := B2.frozen 2
          have c_c3 : wr.cell? ⟨w.heap.size + 1 + 1, 3, none⟩ = some (.slice A2 I.cost.length c2) := (B2.cell 3).trans rfl
          have c_f3 := B2.frozen 3
          have c_c4 : wr.cell? ⟨w.heap.size + 1 + 1, 4, none⟩ = some (.int .i64 I.size) := (B2.cell 4).trans rfl
          have c_f4 := B2.frozen 4
          have c_c5 : wr.cell? ⟨w.heap.size + 1 + 1, 5, none⟩ = some (.slice F j f) := (B2.cell 5).trans rfl
          have c_f5 := B2.frozen 5
          have y_z : w.heap.size + 1 + 1 < Y.heap.size := B3.lt
          have y_c0 : Y.cell? ⟨w.heap.size + 1 + 1, 0, none⟩ = some (.int .i64 I.kind) := (B3.cell 0).trans rfl
          have y_f0 := B3.frozen 0
          have y_c1 : Y.cell? ⟨w.heap.size + 1 + 1, 1, none⟩ = some (.int .i64 I.cap) := (B3.cell 1).trans rfl
          have y_f1 := B3.frozen 1
          have y_c2 : Y.cell? ⟨w.heap.size + 1 + 1, 2, none⟩ = some (.slice E I.items.length e) := (B3.cell 2).trans rfl
          have y_f2 := B3.frozen 2
          have y_c3 : Y.cell? ⟨w.heap.size + 1 + 1, 3, none⟩ = some (.slice A2 I.cost.length c2) := (B3.cell 3).trans rfl
          have y_f3 := B3.frozen 3
          have y_c4 : Y.cell? ⟨w.heap.size + 1 + 1, 4, none⟩ = some (.int .i64 I.size) := (B3.cell 4).trans rfl
          have y_f4 := B3.frozen 4
          have y_c5 : Y.cell? ⟨w.heap.size + 1 + 1, 5, none⟩ = some (.slice F j f) := (B3.cell 5).trans rfl
          have y_f5 := B3.frozen 5
          go_wp2_with (at_builtin; refine list_app rfl (.tmp 45) (.tmp 51) 34 34 rfl (by exact hrun) ?_; clear hrun c_z c_c0 c_c1 c_c2 c_c3 c_c4 c_c5 c_f0 c_f1 c_f2 c_f3 c_f4 c_f5)
          go_roundw
          case rel => exact ⟨j + 1, _, F2, f2, by go_num, by omega, S3.put5 _, O3, R4, G4⟩
          case measure => simp only [intOf]; omega
        · obtain rfl : j = I.sets.length := by omega
          have hjn : ¬ (I.sets.length : Int) < (I.sets.length : Int) := by omega
          have K := Alike.of_below HS.b hB
          have IC : InstAt wr wr.heap.size I E e A2 c2 F f := by
            have hw := HS.b.size
            refine ⟨Reads.of_own HO.out, (HI.out.cost.keep K).more (by omega), ⟨us, HG.out.len, Reads.of_own HR.out, fun i p u a b => ⟨(HG.out.all i p u a b).1, ((HG.out.all i p u a b).2.keep K).more (by omega)⟩⟩, cap_of HO.out, HI.out.n2, cap_of HR.out, HI.out.in_, Nat.le_refl _⟩
          have JC := (HJ.out.below HS.b).more (by have := HS.b.size; omega) (Nat.le_refl _)
          have HE := Lib.hid (bequal_any I J E A2 F D1 D2 D3 e c2 f d1 d2 d3 wr IC JC)
          have B1 := HS.pb
          have B2 := HS.cx
          have bw := HS.b
          clear HS HO HR HG K IC JC hlt hj HI HJ
          have a_z : w.heap.size + 1 < wr.heap.size := B1.lt
          have a_c0 : wr.cell? ⟨w.heap.size + 1, 0, none⟩ = some (.int .i64 J.kind) := (B1.cell 0).trans rfl
          have a_f0 := B1.frozen 0
          have a_c1 : wr.cell? ⟨w.heap.size + 1, 1, none⟩ = some (.int .i64 J.cap) := (B1.cell 1).trans rfl
          have a_f1 := B1.frozen 1
          have a_c2 : wr.cell? ⟨w.heap.size + 1, 2, none⟩ = some (.slice D1 J.items.length d1) := (B1.cell 2).trans rfl
          have a_f2 := B1.frozen 2
          have a_c3 : wr.cell? ⟨w.heap.size + 1, 3, none⟩ = some (.slice D2 J.cost.length d2) := (B1.cell 3).trans rfl
          have a_f3 := B1.frozen 3
          have a_c4 : wr.cell? ⟨w.heap.size + 1, 4, none⟩ = some (.int .i64 J.size) := (B1.cell 4).trans rfl
          have a_f4 := B1.frozen 4
          have a_c5 : wr.cell? ⟨w.heap.size + 1, 5, none⟩ = some (.slice D3 J.sets.length d3) := (B1.cell 5).trans rfl
          have a_f5 := B1.frozen 5
          have c_z : w.heap.size + 1 + 1 < wr.heap.size := B2.lt
          have c_c0 : wr.cell? ⟨w.heap.size + 1 + 1, 0, none⟩ = some (.int .i64 I.kind) := (B2.cell 0).trans rfl
          have c_f0 := B2.frozen 0
          have c_c1 : wr.cell? ⟨w.heap.size + 1 + 1, 1, none⟩ = some (.int .i64 I.cap) := (B2.cell 1).trans rfl
          have c_f1 := B2.frozen 1
          have c_c2 : wr.cell? ⟨w.heap.size + 1 + 1, 2, none⟩ = some (.slice E I.items.length e) := (B2.cell 2).trans rfl
          have c_f2 := B2.frozen 2
          have c_c3 : wr.cell? ⟨w.heap.size + 1 + 1, 3, none⟩ = some (.slice A2 I.cost.length c2) := (B2.cell 3).trans rfl
          have c_f3 := B2.frozen 3
          have c_c4 : wr.cell? ⟨w.heap.size + 1 + 1, 4, none⟩ = some (.int .i64 I.size) := (B2.cell 4).trans rfl
          have c_f4 := B2.frozen 4
          have c_c5 : wr.cell? ⟨w.heap.size + 1 + 1, 5, none⟩ = some (.slice F I.sets.length f) := (B2.cell 5).trans rfl
          have c_f5 := B2.frozen 5
          go_wp2_with fail
          refine HE.out.mono ?_; rintro e' V ⟨rfl, hb⟩
          go_wp2_with fail
          go_ret
          exact ⟨rfl, bl_step bw hb⟩
end Go.Proofs.YtklomjpnmmaogaaDoor
namespace Go.Proofs.YtklomjpnmmaogaaDoor
open Go Go.RowKit
set_option linter.unusedVariables false
set_option linter.unusedSimpArgs false
set_option maxRecDepth 100000

def zI : IData := ⟨0, 0, [], [], 0, []⟩
theorem zI_in : IIn zI := by constructor <;> simp [zI, InI]
theorem zsame_c (w : World) : Calls Tryd.prog 10 #[.agg #[.int .i64 0, .int .i64 0, .slice none 0 0, .slice none 0 0, .int .i64 0, .slice none 0 0], .agg #[.int .i64 0, .int .i64 0, .slice none 0 0, .slice none 0 0, .int .i64 0, .slice none 0 0]] w fun e w' => e = .returned (.bool true) ∧ Below w.heap.size w w' :=
  same_any zI zI none none none none none none 0 0 0 0 0 0 w (Own3.inst (ti := 82) (ts := 80) (base := 0) ⟨own_nil _ _ _ _, r_nil _ _ _ _, s_nil _ _ _ _⟩ zI_in) (Own3.inst (ti := 82) (ts := 80) (base := 0) ⟨own_nil _ _ _ _, r_nil _ _ _ _, s_nil _ _ _ _⟩ zI_in) (by decide) (by decide)
theorem eqD_self (I : IData) : eqD I I = true := by simp [eqD]
theorem may_len {I : IData} (h : MayD I) : I.items.length ≤ 4096 ∧ I.sets.length ≤ 4096 := by
  rcases h with ⟨_, _, h3, _, _, _, h7⟩ | ⟨_, _, _, h4, _, h6, _⟩ | ⟨_, _, h3, _, h5, _, _⟩
  · rw [h7]; exact ⟨h3, by simp⟩
  · rw [h4]; exact ⟨by simp, h6⟩
  · rw [h3, h5]; exact ⟨by simp, by simp⟩
set_option maxHeartbeats 6400000 in
theorem ParseReads_walk (s : ByteArray) (w : World) (hw : LexW w) (hN : NamesW w) (hs : s.size ≤ 140737488355328) : Calls Tryd.prog 3 #[.string s] w fun e w' => e = .returned (.bool true) ∧ Below w.heap.size w w' := by
  have H1 := Lib.hid (parse_any s w hw hN)
  have H2 := Lib.hid (fun w' => rparse_any s w')
  have HK := Lib.hid (fun w' (hb : Below w.heap.size w w') => pwakes_any w' (hw.below hb) (hN.below hb))
  have hpg := parse_good s.data.toList
  clear hw hN
  go_enter Tryd.func3, Tryd.ntmps3
  go_wp2_with fail
  refine H1.out.mono ?_; rintro e v1 ⟨hb1, ⟨a, b, er, hT, rfl⟩ | ⟨I, D1, d1, D2, d2, D3, d3, hT, rfl, hO⟩⟩
  · have bl1 := bl_alloc (bl_alloc hb1 (.cells #[.int .i64 0, .int .i64 0, .slice none 0 0, .slice none 0 0, .int .i64 0, .slice none 0 0] 27)) (.cells #[.int .i64 a, .int .i64 b] 29)
    have N1 : Blk ((v1.alloc (.cells #[.int .i64 0, .int .i64 0, .slice none 0 0, .slice none 0 0, .int .i64 0, .slice none 0 0] 27)).alloc (.cells #[.int .i64 a, .int .i64 b] 29)) v1.heap.size 27 #[.int .i64 0, .int .i64 0, .slice none 0 0, .slice none 0 0, .int .i64 0, .slice none 0 0] := (Blk.new _ _ _).alloc _
    have N2 : Blk ((v1.alloc (.cells #[.int .i64 0, .int .i64 0, .slice none 0 0, .slice none 0 0, .int .i64 0, .slice none 0 0] 27)).alloc (.cells #[.int .i64 a, .int .i64 b] 29)) (v1.heap.size + 1) 29 #[.int .i64 a, .int .i64 b] := Blk.new' (by simp) _ _
    have HT := Lib.hid hT
    clear H1 hb1 hpg hT
    go_wp2_with fail
    generalize (v1.alloc (.cells #[.int .i64 0, .int .i64 0, .slice none 0 0, .slice none 0 0, .int .i64 0, .slice none 0 0] 27)).alloc (.cells #[.int .i64 a, .int .i64 b] 29) = W1 at bl1 N1 N2 ⊢
    generalize v1.heap.size = x1 at N1 N2 ⊢
    refine (H2.out W1).mono ?_; rintro e v2 ⟨hb2, ⟨a', b', er', hE, rfl⟩ | ⟨J, _, _, _, _, _, _, hE, _⟩⟩
    · rw [HT.out] at hE
      injection hE with h1 h2 h3
      subst h1 h2 h3
      have bs := bl_alloc (bl_alloc (Below.refl v2.heap.size v2) (.cells #[.int .i64 0, .int .i64 0, .slice none 0 0, .slice none 0 0, .int .i64 0, .slice none 0 0] 36)) (.cells #[.int .i64 a, .int .i64 b] 37)
      have bl2 := bl_step bl1 (bl_step hb2 bs)
      have M1 := (N1.below hb2).below bs
      have M2 := (N2.below hb2).below bs
      have M3 : Blk ((v2.alloc (.cells #[.int .i64 0, .int .i64 0, .slice none 0 0, .slice none 0 0, .int .i64 0, .slice none 0 0] 36)).alloc (.cells #[.int .i64 a, .int .i64 b] 37)) v2.heap.size 36 #[.int .i64 0, .int .i64 0, .slice none 0 0, .slice none 0 0, .int .i64 0, .slice none 0 0] := (Blk.new _ _ _).alloc _
      have M4 : Blk ((v2.alloc (.cells #[.int .i64 0, .int .i64 0, .slice none 0 0, .slice none 0 0, .int .i64 0, .slice none 0 0] 36)).alloc (.cells #[.int .i64 a, .int .i64 b] 37)) (v2.heap.size + 1) 37 #[.int .i64 a, .int .i64 b] := Blk.new' (by simp) _ _
      clear bl1 N1 N2 hb2 bs HT H2
      go_wp2_with fail
      generalize (v2.alloc (.cells #[.int .i64 0, .int .i64 0, .slice none 0 0, .slice none 0 0, .int .i64 0, .slice none 0 0] 36)).alloc (.cells #[.int .i64 a, .int .i64 b] 37) = W2 at bl2 M1 M2 M3 M4 ⊢
      generalize v2.heap.size = x2 at M3 M4 ⊢
      refine (HK.out _ bl2).mono ?_; rintro e v3 ⟨rfl, hb3⟩
      have bl3 := bl_step bl2 hb3
      have L1 := M1.below hb3
      have L2 := M2.below hb3
      have L3 := M3.below hb3
      have L4 := M4.below hb3
      clear M1 M2 M3 M4 hb3 bl2
      have p_z : x1 < v3.heap.size := L1.lt
      have p_c0 : v3.cell? ⟨x1, 0, none⟩ = some (.int .i64 0) := (L1.cell 0).trans rfl
      have p_f0 := L1.frozen 0
      have p_c1 : v3.cell? ⟨x1, 1, none⟩ = some (.int .i64 0) := (L1.cell 1).trans rfl
      have p_f1 := L1.frozen 1
      have p_c2 : v3.cell? ⟨x1, 2, none⟩ = some (.slice none 0 0) := (L1.cell 2).trans rfl
      have p_f2 := L1.frozen 2
      have p_c3 : v3.cell? ⟨x1, 3, none⟩ = some (.slice none 0 0) := (L1.cell 3).trans rfl
      have p_f3 := L1.frozen 3
      have p_c4 : v3.cell? ⟨x1, 4, none⟩ = some (.int .i64 0) := (L1.cell 4).trans rfl
      have p_f4 := L1.frozen 4
      have p_c5 : v3.cell? ⟨x1, 5, none⟩ = some (.slice none 0 0) := (L1.cell 5).trans rfl
      have p_f5 := L1.frozen 5
      have q_z : x1 + 1 < v3.heap.size := L2.lt
      have q_c0 : v3.cell? ⟨x1 + 1, 0, none⟩ = some (.int .i64 a) := (L2.cell 0).trans rfl
      have q_f0 := L2.frozen 0
      have q_c1 : v3.cell? ⟨x1 + 1, 1, none⟩ = some (.int .i64 b) := (L2.cell 1).trans rfl
      have q_f1 := L2.frozen 1
      have r_z : x2 < v3.heap.size := L3.lt
      have r_c0 : v3.cell? ⟨x2, 0, none⟩ = some (.int .i64 0) := (L3.cell 0).trans rfl
      have r_f0 := L3.frozen 0
      have r_c1 : v3.cell? ⟨x2, 1, none⟩ = some (.int .i64 0) := (L3.cell 1).trans rfl
      have r_f1 := L3.frozen 1
      have r_c2 : v3.cell? ⟨x2, 2, none⟩ = some (.slice none 0 0) := (L3.cell 2).trans rfl
      have r_f2 := L3.frozen 2
      have r_c3 : v3.cell? ⟨x2, 3, none⟩ = some (.slice none 0 0) := (L3.cell 3).trans rfl
      have r_f3 := L3.frozen 3
      have r_c4 : v3.cell? ⟨x2, 4, none⟩ = some (.int .i64 0) := (L3.cell 4).trans rfl
      have r_f4 := L3.frozen 4
      have r_c5 : v3.cell? ⟨x2, 5, none⟩ = some (.slice none 0 0) := (L3.cell 5).trans rfl
      have r_f5 := L3.frozen 5
      have s_z : x2 + 1 < v3.heap.size := L4.lt
      have s_c0 : v3.cell? ⟨x2 + 1, 0, none⟩ = some (.int .i64 a) := (L4.cell 0).trans rfl
      have s_f0 := L4.frozen 0
      have s_c1 : v3.cell? ⟨x2 + 1, 1, none⟩ = some (.int .i64 b) := (L4.cell 1).trans rfl
      have s_f1 := L4.frozen 1
      go_wp2_with fail
      refine (zsame_c v3).mono ?_; rintro e v4 ⟨rfl, hb4⟩
      have bl4 := bl_step bl3 hb4
      have K2 := L2.below hb4
      have K4 := L4.below hb4
      clear L1 L2 L3 L4 hb4 bl3 p_z r_z p_c0 p_f0 r_c0 r_f0 p_c1 p_f1 r_c1 r_f1 p_c2 p_f2 r_c2 r_f2 p_c3 p_f3 r_c3 r_f3 p_c4 p_f4 r_c4 r_f4 p_c5 p_f5 r_c5 r_f5 q_z s_z q_c0 q_f0 s_c0 s_f0 q_c1 q_f1 s_c1 s_f1
      have q_z : x1 + 1 < v4.heap.size := K2.lt
      have q_c0 : v4.cell? ⟨x1 + 1, 0, none⟩ = some (.int .i64 a) := (K2.cell 0).trans rfl
      have q_f0 := K2.frozen 0
      have q_c1 : v4.cell? ⟨x1 + 1, 1, none⟩ = some (.int .i64 b) := (K2.cell 1).trans rfl
      have q_f1 := K2.frozen 1
      have s_z : x2 + 1 < v4.heap.size := K4.lt
      have s_c0 : v4.cell? ⟨x2 + 1, 0, none⟩ = some (.int .i64 a) := (K4.cell 0).trans rfl
      have s_f0 := K4.frozen 0
      have s_c1 : v4.cell? ⟨x2 + 1, 1, none⟩ = some (.int .i64 b) := (K4.cell 1).trans rfl
      have s_f1 := K4.frozen 1
      go_wp2_with fail
      go_ret
      exact ⟨rfl, bl4⟩
    · rw [HT.out] at hE
      cases hE
  · obtain ⟨I', hE, hM⟩ : ∃ J, PT.ok I = .ok J ∧ MayD J := by
      rcases hpg with ⟨_, _, _, h, _⟩ | ⟨J, h, hM⟩
      · rw [hT] at h; cases h
      · exact ⟨J, by rw [← hT, h], hM⟩
    injection hE with hE
    subst hE
    have bs := bl_alloc (bl_alloc (Below.refl v1.heap.size v1) (.cells #[.int .i64 I.kind, .int .i64 I.cap, .slice D1 I.items.length d1, .slice D2 I.cost.length d2, .int .i64 I.size, .slice D3 I.sets.length d3] 27)) (.cells #[.int .i64 0, .int .i64 0] 29)
    have bl1 := bl_step hb1 bs
    have N1 : Blk ((v1.alloc (.cells #[.int .i64 I.kind, .int .i64 I.cap, .slice D1 I.items.length d1, .slice D2 I.cost.length d2, .int .i64 I.size, .slice D3 I.sets.length d3] 27)).alloc (.cells #[.int .i64 0, .int .i64 0] 29)) v1.heap.size 27 #[.int .i64 I.kind, .int .i64 I.cap, .slice D1 I.items.length d1, .slice D2 I.cost.length d2, .int .i64 I.size, .slice D3 I.sets.length d3] := (Blk.new _ _ _).alloc _
    have N2 : Blk ((v1.alloc (.cells #[.int .i64 I.kind, .int .i64 I.cap, .slice D1 I.items.length d1, .slice D2 I.cost.length d2, .int .i64 I.size, .slice D3 I.sets.length d3] 27)).alloc (.cells #[.int .i64 0, .int .i64 0] 29)) (v1.heap.size + 1) 29 #[.int .i64 0, .int .i64 0] := Blk.new' (by simp) _ _
    have HI := Lib.hid ((hO.below bs).inst (may_in hM))
    have HT := Lib.hid hT
    have HM := Lib.hid hM
    clear H1 hb1 hpg hT bs hO hM
    go_wp2_with fail
    generalize (v1.alloc (.cells #[.int .i64 I.kind, .int .i64 I.cap, .slice D1 I.items.length d1, .slice D2 I.cost.length d2, .int .i64 I.size, .slice D3 I.sets.length d3] 27)).alloc (.cells #[.int .i64 0, .int .i64 0] 29) = W1 at bl1 N1 N2 HI ⊢
    generalize v1.heap.size = x1 at N1 N2 ⊢
    refine (H2.out W1).mono ?_; rintro e v2 ⟨hb2, ⟨_, _, _, hE, _⟩ | ⟨J, E1, e1, E2, e2, E3, e3, hE, rfl, hQ⟩⟩
    · rw [HT.out] at hE
      cases hE
    · rw [HT.out] at hE
      injection hE with hE
      subst hE
      have bs := bl_alloc (bl_alloc (Below.refl v2.heap.size v2) (.cells #[.int .i64 I.kind, .int .i64 I.cap, .slice E1 I.items.length e1, .slice E2 I.cost.length e2, .int .i64 I.size, .slice E3 I.sets.length e3] 36)) (.cells #[.int .i64 0, .int .i64 0] 37)
      have bl2 := bl_step bl1 (bl_step hb2 bs)
      have M1 := (N1.below hb2).below bs
      have M2 := (N2.below hb2).below bs
      have M3 : Blk ((v2.alloc (.cells #[.int .i64 I.kind, .int .i64 I.cap, .slice E1 I.items.length e1, .slice E2 I.cost.length e2, .int .i64 I.size, .slice E3 I.sets.length e3] 36)).alloc (.cells #[.int .i64 0, .int .i64 0] 37)) v2.heap.size 36 #[.int .i64 I.kind, .int .i64 I.cap, .slice E1 I.items.length e1, .slice E2 I.cost.length e2, .int .i64 I.size, .slice E3 I.sets.length e3] := (Blk.new _ _ _).alloc _
      have M4 : Blk ((v2.alloc (.cells #[.int .i64 I.kind, .int .i64 I.cap, .slice E1 I.items.length e1, .slice E2 I.cost.length e2, .int .i64 I.size, .slice E3 I.sets.length e3] 36)).alloc (.cells #[.int .i64 0, .int .i64 0] 37)) (v2.heap.size + 1) 37 #[.int .i64 0, .int .i64 0] := Blk.new' (by simp) _ _
      have QI := Lib.hid ((hQ.below bs).inst (may_in HM.out))
      have PI := Lib.hid ((HI.out.below hb2).below bs)
      clear bl1 N1 N2 hb2 bs HT H2 hQ HI
      go_wp2_with fail
      generalize (v2.alloc (.cells #[.int .i64 I.kind, .int .i64 I.cap, .slice E1 I.items.length e1, .slice E2 I.cost.length e2, .int .i64 I.size, .slice E3 I.sets.length e3] 36)).alloc (.cells #[.int .i64 0, .int .i64 0] 37) = W2 at bl2 M1 M2 M3 M4 QI PI ⊢
      generalize v2.heap.size = x2 at M3 M4 ⊢
      refine (HK.out _ bl2).mono ?_; rintro e v3 ⟨rfl, hb3⟩
      have bl3 := bl_step bl2 hb3
      have L1 := M1.below hb3
      have L2 := M2.below hb3
      have L3 := M3.below hb3
      have L4 := M4.below hb3
      have hls := may_len HM.out
      have HS := Lib.hid (same_any I I D1 D2 D3 E1 E2 E3 d1 d2 d3 e1 e2 e3 v3 ((PI.out.below hb3).more (by have := PI.out.bd; have := hb3.size; omega) (Nat.le_refl _)) ((QI.out.below hb3).more (by have := QI.out.bd; have := hb3.size; omega) (Nat.le_refl _)) hls.1 hls.2)
      rw [eqD_self] at HS
      clear M1 M2 M3 M4 hb3 bl2 PI QI hls HM HK
      have p_z : x1 < v3.heap.size := L1.lt
      have p_c0 : v3.cell? ⟨x1, 0, none⟩ = some (.int .i64 I.kind) := (L1.cell 0).trans rfl
      have p_f0 := L1.frozen 0
      have p_c1 : v3.cell? ⟨x1, 1, none⟩ = some (.int .i64 I.cap) := (L1.cell 1).trans rfl
      have p_f1 := L1.frozen 1
      have p_c2 : v3.cell? ⟨x1, 2, none⟩ = some (.slice D1 I.items.length d1) := (L1.cell 2).trans rfl
      have p_f2 := L1.frozen 2
      have p_c3 : v3.cell? ⟨x1, 3, none⟩ = some (.slice D2 I.cost.length d2) := (L1.cell 3).trans rfl
      have p_f3 := L1.frozen 3
      have p_c4 : v3.cell? ⟨x1, 4, none⟩ = some (.int .i64 I.size) := (L1.cell 4).trans rfl
      have p_f4 := L1.frozen 4
      have p_c5 : v3.cell? ⟨x1, 5, none⟩ = some (.slice D3 I.sets.length d3) := (L1.cell 5).trans rfl
      have p_f5 := L1.frozen 5
      have q_z : x1 + 1 < v3.heap.size := L2.lt
      have q_c0 : v3.cell? ⟨x1 + 1, 0, none⟩ = some (.int .i64 0) := (L2.cell 0).trans rfl
      have q_f0 := L2.frozen 0
      have q_c1 : v3.cell? ⟨x1 + 1, 1, none⟩ = some (.int .i64 0) := (L2.cell 1).trans rfl
      have q_f1 := L2.frozen 1
      have r_z : x2 < v3.heap.size := L3.lt
      have r_c0 : v3.cell? ⟨x2, 0, none⟩ = some (.int .i64 I.kind) := (L3.cell 0).trans rfl
      have r_f0 := L3.frozen 0
      have r_c1 : v3.cell? ⟨x2, 1, none⟩ = some (.int .i64 I.cap) := (L3.cell 1).trans rfl
      have r_f1 := L3.frozen 1
      have r_c2 : v3.cell? ⟨x2, 2, none⟩ = some (.slice E1 I.items.length e1) := (L3.cell 2).trans rfl
      have r_f2 := L3.frozen 2
      have r_c3 : v3.cell? ⟨x2, 3, none⟩ = some (.slice E2 I.cost.length e2) := (L3.cell 3).trans rfl
      have r_f3 := L3.frozen 3
      have r_c4 : v3.cell? ⟨x2, 4, none⟩ = some (.int .i64 I.size) := (L3.cell 4).trans rfl
      have r_f4 := L3.frozen 4
      have r_c5 : v3.cell? ⟨x2, 5, none⟩ = some (.slice E3 I.sets.length e3) := (L3.cell 5).trans rfl
      have r_f5 := L3.frozen 5
      have s_z : x2 + 1 < v3.heap.size := L4.lt
      have s_c0 : v3.cell? ⟨x2 + 1, 0, none⟩ = some (.int .i64 0) := (L4.cell 0).trans rfl
      have s_f0 := L4.frozen 0
      have s_c1 : v3.cell? ⟨x2 + 1, 1, none⟩ = some (.int .i64 0) := (L4.cell 1).trans rfl
      have s_f1 := L4.frozen 1
      go_wp2_with fail
      refine HS.out.mono ?_; rintro e v4 ⟨rfl, hb4⟩
      have bl4 := bl_step bl3 hb4
      have K2 := L2.below hb4
      have K4 := L4.below hb4
      clear L1 L2 L3 L4 hb4 bl3 HS p_z r_z p_c0 p_f0 r_c0 r_f0 p_c1 p_f1 r_c1 r_f1 p_c2 p_f2 r_c2 r_f2 p_c3 p_f3 r_c3 r_f3 p_c4 p_f4 r_c4 r_f4 p_c5 p_f5 r_c5 r_f5 q_z s_z q_c0 q_f0 s_c0 s_f0 q_c1 q_f1 s_c1 s_f1
      have q_z : x1 + 1 < v4.heap.size := K2.lt
      have q_c0 : v4.cell? ⟨x1 + 1, 0, none⟩ = some (.int .i64 0) := (K2.cell 0).trans rfl
      have q_f0 := K2.frozen 0
      have q_c1 : v4.cell? ⟨x1 + 1, 1, none⟩ = some (.int .i64 0) := (K2.cell 1).trans rfl
      have q_f1 := K2.frozen 1
      have s_z : x2 + 1 < v4.heap.size := K4.lt
      have s_c0 : v4.cell? ⟨x2 + 1, 0, none⟩ = some (.int .i64 0) := (K4.cell 0).trans rfl
      have s_f0 := K4.frozen 0
      have s_c1 : v4.cell? ⟨x2 + 1, 1, none⟩ = some (.int .i64 0) := (K4.cell 1).trans rfl
      have s_f1 := K4.frozen 1
      go_wp2_with fail
      go_ret
      exact ⟨rfl, bl4⟩
end Go.Proofs.YtklomjpnmmaogaaDoor
