/- The walks of instances, part C: rows and elements. -/
import Derived.Test.YtklomjpnmmaogaaDoorIB
namespace Go.Proofs.YtklomjpnmmaogaaDoor
open Go.RowKit
set_option linter.unusedVariables false
set_option linter.unusedSimpArgs false
set_option maxRecDepth 100000

def risesB (last size : Int) : List Int → Bool
  | [] => true
  | e :: r => !(decide (e ≤ last) || decide (size ≤ e)) && risesB e size r
def shapedB (I : IData) : Bool := (I.cost.all fun r => r.length == I.cost.length) && I.sets.all fun p => risesB (-1) I.size p.2
set_option maxHeartbeats 6400000 in
theorem shaped_any (I : IData) (A1 A2 A3 : Option Addr) (c1 c2 c3 : Nat) (w : World) {B : Nat} (hI : InstAt w B I A1 c1 A2 c2 A3 c3) : Calls Tryd.prog 46 #[.agg #[.int .i64 I.kind, .int .i64 I.cap, .slice A1 I.items.length c1, .slice A2 I.cost.length c2, .int .i64 I.size, .slice A3 I.sets.length c3]] w fun e w' => e = .returned (.bool (shapedB I)) ∧ Below w.heap.size w w' := by
  have HI := Lib.hid hI
  have N2 := hI.n2
  have N3 := hI.n3
  clear hI
  go_enter Tryd.func46, Tryd.ntmps46
  have bl0 := Below.refl w.heap.size w
  go_wp2_with fail
  have Ni_0 : Blk (w.alloc (.cells #[.int .i64 I.kind, .int .i64 I.cap, .slice A1 I.items.length c1, .slice A2 I.cost.length c2, .int .i64 I.size, .slice A3 I.sets.length c3] 27)) (w.heap.size) 27 #[.int .i64 I.kind, .int .i64 I.cap, .slice A1 I.items.length c1, .slice A2 I.cost.length c2, .int .i64 I.size, .slice A3 I.sets.length c3] := (Blk.new _ _ _)
  have bl0 := bl_alloc (bl0) (.cells #[.int .i64 I.kind, .int .i64 I.cap, .slice A1 I.items.length c1, .slice A2 I.cost.length c2, .int .i64 I.size, .slice A3 I.sets.length c3] 27)
  generalize w.alloc (.cells #[.int .i64 I.kind, .int .i64 I.cap, .slice A1 I.items.length c1, .slice A2 I.cost.length c2, .int .i64 I.size, .slice A3 I.sets.length c3] 27) = vw0 at Ni_0 bl0 ⊢
  have i_n0_z : w.heap.size < vw0.heap.size := Ni_0.lt
  have i_n0_c0 : vw0.cell? ⟨w.heap.size, 0, none⟩ = some (.int .i64 I.kind) := (Ni_0.cell 0).trans rfl
  have i_n0_f0 := Ni_0.frozen 0
  have i_n0_c1 : vw0.cell? ⟨w.heap.size, 1, none⟩ = some (.int .i64 I.cap) := (Ni_0.cell 1).trans rfl
  have i_n0_f1 := Ni_0.frozen 1
  have i_n0_c2 : vw0.cell? ⟨w.heap.size, 2, none⟩ = some (.slice A1 I.items.length c1) := (Ni_0.cell 2).trans rfl
  have i_n0_f2 := Ni_0.frozen 2
  have i_n0_c3 : vw0.cell? ⟨w.heap.size, 3, none⟩ = some (.slice A2 I.cost.length c2) := (Ni_0.cell 3).trans rfl
  have i_n0_f3 := Ni_0.frozen 3
  have i_n0_c4 : vw0.cell? ⟨w.heap.size, 4, none⟩ = some (.int .i64 I.size) := (Ni_0.cell 4).trans rfl
  have i_n0_f4 := Ni_0.frozen 4
  have i_n0_c5 : vw0.cell? ⟨w.heap.size, 5, none⟩ = some (.slice A3 I.sets.length c3) := (Ni_0.cell 5).trans rfl
  have i_n0_f5 := Ni_0.frozen 5
  go_wp2_with fail
  go_loop [13] (fun vi => ∃ i : Nat, vi = .int .i64 i ∧ i ≤ I.cost.length ∧ Hid (shapedB I = (((I.cost.drop i).all fun r => r.length == I.cost.length) && I.sets.all fun p => risesB (-1) I.size p.2))) (fun vi => I.cost.length - (intOf vi).toNat)
  case atStart => exact ⟨0, rfl, Nat.zero_le _, Lib.hid rfl⟩
  case round =>
    obtain ⟨i, rfl, hi, HE⟩ := hrel
    by_cases hlt : i < I.cost.length
    · obtain ⟨r, hr⟩ : ∃ r, I.cost[i]? = some r := ⟨_, List.getElem?_eq_getElem hlt⟩
      obtain ⟨b, o, A', c', rfl, hb, hc, h4, h5, h6⟩ := (HI.out.below bl0).cost.get hr
      have hd := drop_get hr
      by_cases hl : r.length = I.cost.length
      · have HN : Hid (shapedB I = (((I.cost.drop (i + 1)).all fun r => r.length == I.cost.length) && I.sets.all fun p => risesB (-1) I.size p.2)) := Lib.hid (by rw [HE.out, hd]; simp [hl])
        have g1 : (r.length == I.cost.length) = true := by simpa using hl
        have g2 : ((r.length : Int) == (I.cost.length : Int)) = true := by rw [hl]; simp
        clear hl hd hr h6
        go_wp2_with fail
        go_round
        case rel => exact ⟨i + 1, by go_num, by omega, HN⟩
        case measure => simp only [intOf]; omega
      · have HN : Hid (shapedB I = false) := Lib.hid (by rw [HE.out, hd]; simp [hl])
        have g1 : (r.length == I.cost.length) = false := by simpa using hl
        have g2 : ((r.length : Int) == (I.cost.length : Int)) = false := by simp; omega
        clear hl hd hr h6
        go_wp2
        go_ret
        exact ⟨by rw [HN.out]; rfl, bl0⟩
    · obtain rfl : i = I.cost.length := by omega
      have HE : Hid (shapedB I = I.sets.all fun p => risesB (-1) I.size p.2) := Lib.hid (by rw [HE.out]; simp)
      clear hlt hi
      go_wp2_with fail
      go_loopw [27] (fun vi wr => ∃ i : Nat, vi = .int .i64 i ∧ i ≤ I.sets.length ∧ Hid (shapedB I = (I.sets.drop i).all fun p => risesB (-1) I.size p.2) ∧ Blk wr w.heap.size 27 #[.int .i64 I.kind, .int .i64 I.cap, .slice A1 I.items.length c1, .slice A2 I.cost.length c2, .int .i64 I.size, .slice A3 I.sets.length c3] ∧ Below w.heap.size w wr) (fun vi _ => I.sets.length - (intOf vi).toNat)
      case atStart => exact ⟨0, rfl, Nat.zero_le _, HE, Ni_0, bl0⟩
      case round =>
        clear Ni_0 bl0 HE i_n0_z i_n0_c0 i_n0_f0 i_n0_c1 i_n0_f1 i_n0_c2 i_n0_f2 i_n0_c3 i_n0_f3 i_n0_c4 i_n0_f4 i_n0_c5 i_n0_f5
        obtain ⟨i, rfl, hi, HE, hBx, be⟩ := hrel
        by_cases hlt : i < I.sets.length
        · obtain ⟨p, hp⟩ : ∃ p, I.sets[i]? = some p := ⟨_, List.getElem?_eq_getElem hlt⟩
          obtain ⟨b, o, A', c', rfl, hb, hc1, hc2, h4, h5, h6⟩ := (HI.out.below be).sets.get hp
          have hd := drop_get hp
          go_wp2_with fail
          have bl60 : Below wr.heap.size wr wr := Below.refl _ _
          have i_o_z : w.heap.size < wr.heap.size := hBx.lt
          have i_o_c0 : wr.cell? ⟨w.heap.size, 0, none⟩ = some (.int .i64 I.kind) := (hBx.cell 0).trans rfl
          have i_o_f0 := hBx.frozen 0
          have i_o_c1 : wr.cell? ⟨w.heap.size, 1, none⟩ = some (.int .i64 I.cap) := (hBx.cell 1).trans rfl
          have i_o_f1 := hBx.frozen 1
          have i_o_c2 : wr.cell? ⟨w.heap.size, 2, none⟩ = some (.slice A1 I.items.length c1) := (hBx.cell 2).trans rfl
          have i_o_f2 := hBx.frozen 2
          have i_o_c3 : wr.cell? ⟨w.heap.size, 3, none⟩ = some (.slice A2 I.cost.length c2) := (hBx.cell 3).trans rfl
          have i_o_f3 := hBx.frozen 3
          have i_o_c4 : wr.cell? ⟨w.heap.size, 4, none⟩ = some (.int .i64 I.size) := (hBx.cell 4).trans rfl
          have i_o_f4 := hBx.frozen 4
          have i_o_c5 : wr.cell? ⟨w.heap.size, 5, none⟩ = some (.slice (some ⟨b, o, none⟩) I.sets.length c3) := (hBx.cell 5).trans rfl
          have i_o_f5 := hBx.frozen 5
          have Ni_60 : Blk (wr.alloc (.cells #[.int .i64 p.1, .slice A' p.2.length c'] 80)) (w.heap.size) 27 #[.int .i64 I.kind, .int .i64 I.cap, .slice A1 I.items.length c1, .slice A2 I.cost.length c2, .int .i64 I.size, .slice (some ⟨b, o, none⟩) I.sets.length c3] := (hBx.alloc _)
          clear i_o_z i_o_c0 i_o_f0 i_o_c1 i_o_f1 i_o_c2 i_o_f2 i_o_c3 i_o_f3 i_o_c4 i_o_f4 i_o_c5 i_o_f5
          have Ns_60 : Blk (wr.alloc (.cells #[.int .i64 p.1, .slice A' p.2.length c'] 80)) (wr.heap.size) 80 #[.int .i64 p.1, .slice A' p.2.length c'] := (Blk.new _ _ _)
          have bl60 := bl_alloc (bl60) (.cells #[.int .i64 p.1, .slice A' p.2.length c'] 80)
          generalize wr.alloc (.cells #[.int .i64 p.1, .slice A' p.2.length c'] 80) = uw60 at Ni_60 Ns_60 bl60 ⊢
          have i_n60_z : w.heap.size < uw60.heap.size := Ni_60.lt
          have i_n60_c0 : uw60.cell? ⟨w.heap.size, 0, none⟩ = some (.int .i64 I.kind) := (Ni_60.cell 0).trans rfl
          have i_n60_f0 := Ni_60.frozen 0
          have i_n60_c1 : uw60.cell? ⟨w.heap.size, 1, none⟩ = some (.int .i64 I.cap) := (Ni_60.cell 1).trans rfl
          have i_n60_f1 := Ni_60.frozen 1
          have i_n60_c2 : uw60.cell? ⟨w.heap.size, 2, none⟩ = some (.slice A1 I.items.length c1) := (Ni_60.cell 2).trans rfl
          have i_n60_f2 := Ni_60.frozen 2
          have i_n60_c3 : uw60.cell? ⟨w.heap.size, 3, none⟩ = some (.slice A2 I.cost.length c2) := (Ni_60.cell 3).trans rfl
          have i_n60_f3 := Ni_60.frozen 3
          have i_n60_c4 : uw60.cell? ⟨w.heap.size, 4, none⟩ = some (.int .i64 I.size) := (Ni_60.cell 4).trans rfl
          have i_n60_f4 := Ni_60.frozen 4
          have i_n60_c5 : uw60.cell? ⟨w.heap.size, 5, none⟩ = some (.slice (some ⟨b, o, none⟩) I.sets.length c3) := (Ni_60.cell 5).trans rfl
          have i_n60_f5 := Ni_60.frozen 5
          have s_n60_z : wr.heap.size < uw60.heap.size := Ns_60.lt
          have s_n60_c0 : uw60.cell? ⟨wr.heap.size, 0, none⟩ = some (.int .i64 p.1) := (Ns_60.cell 0).trans rfl
          have s_n60_f0 := Ns_60.frozen 0
          have s_n60_c1 : uw60.cell? ⟨wr.heap.size, 1, none⟩ = some (.slice A' p.2.length c') := (Ns_60.cell 1).trans rfl
          have s_n60_f1 := Ns_60.frozen 1
          have hI2 := (HI.out.below be).below bl60
          have hE := h6.keep (Alike.of_below bl60 (HI.out.below be).bd)
          have IS := HI.out.in_.size
          have IE := Lib.hid (HI.out.in_.sets p (List.mem_of_getElem? hp)).2
          have HP : Hid (shapedB I = (risesB (-1) I.size p.2 && (I.sets.drop (i + 1)).all fun p => risesB (-1) I.size p.2)) := Lib.hid (by rw [HE.out, hd]; rfl)
          have HEE := Lib.hid hE
          clear hp hd h6 hE HE
          obtain ⟨s1, s2⟩ := IS
          go_loop [7, 34] (fun vl vj => ∃ (last : Int) (j : Nat), vl = .int .i64 last ∧ vj = .int .i64 j ∧ j ≤ p.2.length ∧ Hid (risesB (-1) I.size p.2 = risesB last I.size (p.2.drop j))) (fun _ vj => p.2.length - (intOf vj).toNat)
          case atStart => exact ⟨-1, 0, rfl, rfl, Nat.zero_le _, Lib.hid rfl⟩
          case round =>
            obtain ⟨last, j, rfl, rfl, hj, HR⟩ := hrel
            by_cases hlt2 : j < p.2.length
            · obtain ⟨e, he⟩ : ∃ e, p.2[j]? = some e := ⟨_, List.getElem?_eq_getElem hlt2⟩
              obtain ⟨b', o', rfl, hb', hce⟩ := HEE.out.get he
              have hd := drop_get he
              by_cases hbad : e ≤ last ∨ I.size ≤ e
              · have HF : Hid (shapedB I = false) := Lib.hid (by
                  rw [HP.out, HR.out, hd]
                  simp only [risesB]
                  rcases hbad with h | h <;> simp [h])
                clear hd he
                rcases hbad with hbad | hbad
                · go_wp2
                  go_ret
                  exact ⟨by rw [HF.out]; rfl, bl_step be bl60⟩
                · by_cases hbb : e ≤ last
                  · go_wp2
                    go_ret
                    exact ⟨by rw [HF.out]; rfl, bl_step be bl60⟩
                  · go_wp2
                    go_ret
                    exact ⟨by rw [HF.out]; rfl, bl_step be bl60⟩
              · have HR2 : Hid (risesB (-1) I.size p.2 = risesB e I.size (p.2.drop (j + 1))) := Lib.hid (by
                  rw [HR.out, hd]
                  simp only [risesB]
                  have h1 : ¬ e ≤ last := fun h => hbad (.inl h)
                  have h2 : ¬ I.size ≤ e := fun h => hbad (.inr h)
                  simp [h1, h2])
                have g1 : ¬ e ≤ last := fun h => hbad (.inl h)
                have g2 : ¬ I.size ≤ e := fun h => hbad (.inr h)
                clear hd he hbad
                go_wp2_with fail
                go_round
                case rel => exact ⟨e, j + 1, rfl, by go_num, by omega, HR2⟩
                case measure => simp only [intOf]; omega
            · obtain rfl : j = p.2.length := by omega
              have HN : Hid (shapedB I = (I.sets.drop (i + 1)).all fun p => risesB (-1) I.size p.2) := Lib.hid (by
                rw [HP.out, HR.out, List.drop_length]; rfl)
              go_wp2_with fail
              go_roundw
              case rel => exact ⟨i + 1, by go_num, by omega, HN, Ni_60, bl_step be bl60⟩
              case measure => simp only [intOf]; omega
        · obtain rfl : i = I.sets.length := by omega
          have HN : Hid (shapedB I = true) := Lib.hid (by rw [HE.out, List.drop_length]; rfl)
          go_wp2
          go_ret
          exact ⟨by rw [HN.out]; rfl, be⟩
end Go.Proofs.YtklomjpnmmaogaaDoor
