/- A strings.Builder that has been grown: what is written into it. -/
import Derived.Test.YtidpenifabojnaaDoorLI
import Derived.Test.YtidpenifabojnaaDoorShelf
import Derived.Shelf.Strings.BuilderCap
namespace Go.Proofs.YtidpenifabojnaaDoor
open Go Go.RowKit
set_option linter.unusedVariables false
set_option linter.unusedSimpArgs false
set_option maxRecDepth 100000

/-- A builder at b, whose own address stands in it; it holds these bytes; its row has room for so many. -/
structure Bld (B b : Nat) (out : List UInt8) (cap : Nat) (w : World) : Prop where
  at_ : Lib.BuilderAtF 62 5 B b (.pointer (some ⟨b, 0, none⟩)) (Lib.byteCells out) w
  cap_ : ∃ v, w.cell? ⟨b, 1, none⟩ = some v ∧ cap ≤ v.capOf
theorem info_b : (Tryd.prog.info? 5).map (fun i => (i.zero, i.size, i.bytes)) = some (some (.int .u8 0), 1, 1) := by kernel_rfl
theorem neq_b : ¬ 62 = 5 := by decide
theorem cc_any (b : Nat) (v : Value) (w : World) (hbk : w.heap[b]? = some (.cells #[.pointer (some ⟨b, 0, none⟩), v] 62 (0, 0))) : Calls Tryd.prog 41 #[.pointer (some ⟨b, 0, none⟩)] w fun e w' => e = .returned (.tuple #[]) ∧ w' = w := by
  have c0 : w.cell? ⟨b, 0, none⟩ = some (.pointer (some ⟨b, 0, none⟩)) := by rw [Lib.cell_of_heap hbk]; rfl
  have z : b < w.heap.size := (Array.getElem?_eq_some_iff.1 hbk).1
  obtain ⟨j, hj, _⟩ := Option.map_eq_some_iff.1 (show (Tryd.prog.info? 62).map (·.size) = some 2 by kernel_rfl)
  clear hbk
  go_enter Tryd.func41, Tryd.ntmps41
  go_wp2
  rw [Lib.run_neq_ptr_same w _ Tryd.underlying59 hj]
  go_wp2
  go_end0
  exact ⟨rfl, rfl⟩
theorem bytes_strCells (s : ByteArray) : Lib.strCells s = Lib.byteCells s.data.toList := rfl
set_option maxHeartbeats 2000000 in
theorem ws_any (B b : Nat) (out : List UInt8) (cap : Nat) (s : ByteArray) (w : World) (h : Bld B b out cap w) (hlen : out.length + s.size ≤ 140737488355328) (hBw : B ≤ w.heap.size) :
    Calls Tryd.prog 25 #[.pointer (some ⟨b, 0, none⟩), .string s] w fun e w' => e = .returned (.tuple #[.int .i64 s.size, .nilIface]) ∧ Bld B b (out ++ s.data.toList) cap w' ∧ Below B w w' := by
  obtain ⟨i0, hi, hzz⟩ := Option.map_eq_some_iff.1 info_b
  simp only [Prod.mk.injEq] at hzz
  obtain ⟨hz0, hz1, hz2⟩ := hzz
  obtain ⟨⟨hB, v, hbk, hown, hne⟩, v0, hv0, hcap⟩ := h
  have c0 : w.cell? ⟨b, 0, none⟩ = some (.pointer (some ⟨b, 0, none⟩)) := by rw [Lib.cell_of_heap hbk]; rfl
  have c1 : w.cell? ⟨b, 1, none⟩ = some v := by rw [Lib.cell_of_heap hbk]; rfl
  rw [c1] at hv0
  injection hv0 with hv0
  subst hv0
  have HC := Lib.hid (cc_any b v w hbk)
  have z : b < w.heap.size := (Array.getElem?_eq_some_iff.1 hbk).1
  rw [Lib.byteCells_length] at hown
  go_enter Tryd.func25, Tryd.ntmps25
  go_wp2_with fail
  refine HC.out.mono ?_; rintro e v1 ⟨rfl, hv⟩
  obtain rfl := hv.symm
  clear hv HC
  go_wp2_with (at_builtin; refine Lib.wpList_append_own_stringF_cap _ rfl (.tmp 12) (.tmp 13) 60 9 rfl B 5 i0 Tryd.underlying60 Tryd.underlying9 hi hz0 hz1 hz2 v out.length (Lib.byteCells out) rfl hown s rfl ?c3 ?c4 ?c5 ?_)
  case c3 => unfold maxLen; omega
  case c4 => omega
  case c5 => exact hBw
  intro v' w2 hown' hgrow _ hcapv
  have hb2 : w2.heap[b]? = some (.cells #[.pointer (some ⟨b, 0, none⟩), v] 62 (0, 0)) := by
    rw [hgrow.block b z (fun e => hne e.symm)]
    exact hbk
  have d0 : w2.cell? ⟨b, 0, none⟩ = some (.pointer (some ⟨b, 0, none⟩)) := by rw [Lib.cell_of_heap hb2]; rfl
  have d1 : w2.cell? ⟨b, 1, none⟩ = some v := by rw [Lib.cell_of_heap hb2]; rfl
  have f1 : w2.frozen? ⟨b, 1, none⟩ = false := Lib.frozen_of_heap hb2 1
  have z2 : b < w2.heap.size := (Array.getElem?_eq_some_iff.1 hb2).1
  obtain ⟨ao, n', cp, rfl⟩ : ∃ ao n' cap, v' = .slice ao n' cap := by
    rcases hown'.2 with ⟨hv, _⟩ | ⟨g, cap, cur, fz, hv, _⟩
    · exact ⟨_, _, _, hv⟩
    · exact ⟨_, _, _, hv⟩
  have e1 : Lib.byteCells out ++ Lib.strCells s = Lib.byteCells (out ++ s.data.toList) := by
    unfold Lib.byteCells Lib.strCells
    rw [List.map_append]
  rw [e1] at hown'
  have e2 : (out ++ s.data.toList).length = out.length + s.size := by rw [List.length_append, ← Lib.size_eq]
  have HP := Lib.BuilderAtF.put (T := 62) (e := 5) hB hb2 (bs' := Lib.byteCells (out ++ s.data.toList)) (by rw [Lib.byteCells_length, e2]; exact hown') neq_b
  have HB := (((Below.refl B w).grown hgrow hBw (fun k hk => (hown.lt k hk).1)).setCell (p := ⟨b, 1, none⟩) hB (.slice ao n' cp))
  have HS := World.cell?_setCell_same w2 ⟨b, 1, none⟩ (.slice ao n' cp) d1
  clear hown' hgrow hown hbk hb2 c0 c1 hi
  go_wp2
  go_ret2
  exact ⟨rfl, ⟨HP, _, HS, Nat.le_trans hcap hcapv⟩, HB⟩
theorem Bld.weak {B b : Nat} {out : List UInt8} {cap : Nat} {w : World} (h : Bld B b out cap w) : Bld B b out 0 w := ⟨h.at_, by obtain ⟨v, h1, _⟩ := h.cap_; exact ⟨v, h1, Nat.zero_le _⟩⟩
set_option maxHeartbeats 2000000 in
theorem wb_any (B b : Nat) (out : List UInt8) (c : UInt8) (w : World) (h : Bld B b out 0 w) (hlen : out.length + 1 ≤ 140737488355328) (hBw : B ≤ w.heap.size) :
    Calls Tryd.prog 27 #[.pointer (some ⟨b, 0, none⟩), .int .u8 c.toNat] w fun e w' => e = .returned .nilIface ∧ Bld B b (out ++ [c]) 0 w' ∧ Below B w w' := by
  obtain ⟨i0, hi, hzz⟩ := Option.map_eq_some_iff.1 info_b
  simp only [Prod.mk.injEq] at hzz
  obtain ⟨hz0, hz1, hz2⟩ := hzz
  obtain ⟨⟨hB, v, hbk, hown, hne⟩, _⟩ := h
  have c0 : w.cell? ⟨b, 0, none⟩ = some (.pointer (some ⟨b, 0, none⟩)) := by rw [Lib.cell_of_heap hbk]; rfl
  have c1 : w.cell? ⟨b, 1, none⟩ = some v := by rw [Lib.cell_of_heap hbk]; rfl
  have HC := Lib.hid (cc_any b v w hbk)
  have z : b < w.heap.size := (Array.getElem?_eq_some_iff.1 hbk).1
  rw [Lib.byteCells_length] at hown
  go_enter Tryd.func27, Tryd.ntmps27
  go_wp2_with fail
  refine HC.out.mono ?_; rintro e v1 ⟨rfl, hv⟩
  obtain rfl := hv.symm
  clear hv HC
  go_wp2_with (at_builtin; refine wpList_append_ownF _ rfl (.tmp 11) (.tmp 13) 60 rfl B 5 i0 (.int .u8 0) 1 1 Tryd.underlying60 hi hz0 hz1 hz2 rfl (by decide) v out.length (Lib.byteCells out) rfl (hown.alloc _) ⟨w.heap.size, 0, none⟩ 1 1 [.int .u8 c.toNat] rfl rfl ?c1 ?c2 ?c3 ?c4 ?c5 ?_)
  case c1 =>
    intro j u hj
    match j, hj with
    | 0, hj => simp at hj; subst hj; simp [Addr.add]
  case c2 => intro u hu; simp at hu; subst hu; rfl
  case c3 => unfold maxLen; omega
  case c4 => omega
  case c5 => simp; omega
  intro v' w2 hown' hgrow _
  have hb2 : w2.heap[b]? = some (.cells #[.pointer (some ⟨b, 0, none⟩), v] 62 (0, 0)) := by
    rw [hgrow.block b (by simp; omega) (fun e => hne e.symm), Lib.alloc_old w _ b z]
    exact hbk
  have d0 : w2.cell? ⟨b, 0, none⟩ = some (.pointer (some ⟨b, 0, none⟩)) := by rw [Lib.cell_of_heap hb2]; rfl
  have d1 : w2.cell? ⟨b, 1, none⟩ = some v := by rw [Lib.cell_of_heap hb2]; rfl
  have f1 : w2.frozen? ⟨b, 1, none⟩ = false := Lib.frozen_of_heap hb2 1
  have z2 : b < w2.heap.size := (Array.getElem?_eq_some_iff.1 hb2).1
  obtain ⟨g, cp, rfl⟩ : ∃ g cap, v' = .slice (some ⟨g, 0, none⟩) (out.length + 1) cap := by
    rcases hown'.2 with ⟨_, h0⟩ | ⟨g, cap, cur, fz, hv, _⟩
    · omega
    · exact ⟨g, cap, hv⟩
  have e1 : Lib.byteCells out ++ [Value.int .u8 c.toNat] = Lib.byteCells (out ++ [c]) := by
    unfold Lib.byteCells
    rw [List.map_append]
    rfl
  rw [e1] at hown'
  have HP := Lib.BuilderAtF.put (T := 62) (e := 5) hB hb2 (bs' := Lib.byteCells (out ++ [c])) (by rw [Lib.byteCells_length, List.length_append]; exact hown') neq_b
  have HB := ((((Below.refl B w).alloc hBw _).grown hgrow (by simp; omega) (fun k hk => (hown.lt k hk).1)).setCell (p := ⟨b, 1, none⟩) hB (.slice (some ⟨g, 0, none⟩) (out.length + 1) cp))
  have HS := World.cell?_setCell_same w2 ⟨b, 1, none⟩ (.slice (some ⟨g, 0, none⟩) (out.length + 1) cp) d1
  clear hown' hgrow hown hbk hb2 c0 c1 hi
  go_wp2
  go_ret
  exact ⟨rfl, ⟨HP, _, HS, Nat.zero_le _⟩, HB⟩
end Go.Proofs.YtidpenifabojnaaDoor
