/- The walks of the reference's instances, part H: Check, N. -/
import Derived.Test.YtklomjpnmmaogaaDoorIG
namespace Go.Proofs.YtklomjpnmmaogaaDoor
open Go.RowKit
set_option linter.unusedVariables false
set_option linter.unusedSimpArgs false
set_option maxRecDepth 100000

set_option maxHeartbeats 12800000 in
theorem bcheck_2 (I : IData) (A1 A2 A3 : Option Addr) (c1 c2 c3 : Nat) (w : World) {B : Nat} (hI : InstAt w B I A1 c1 A2 c2 A3 c3) (hk : I.kind = 2) : Calls Tryd.prog 33 #[.agg #[.int .i64 I.kind, .int .i64 I.cap, .slice A1 I.items.length c1, .slice A2 I.cost.length c2, .int .i64 I.size, .slice A3 I.sets.length c3]] w fun e w' => e = .returned (.int .i64 (checkR I)) ∧ Below w.heap.size w w' := by
  have HI := Lib.hid hI
  have N1 := hI.n1
  have N2 := hI.n2
  have N3 := hI.n3
  clear hI
  have k1 : 0 ≤ I.kind := by omega
  have k2 : I.kind ≤ 3 := by omega
  have g1 : (I.kind == 1) = false := by rw [hk]; rfl
  have g2 : (I.kind == 2) = true := by rw [hk]; rfl
  have g0 : (I.kind == 0) = false := by rw [hk]; rfl
  have g3 : (I.kind == 3) = false := by rw [hk]; rfl
  have m0 : (I.kind != 0) = true := by rw [hk]; rfl
  have m3 : (I.kind != 3) = true := by rw [hk]; rfl
  have HK := Lib.hid hk
  by_cases hc : I.cap = 0
  · have ac : (I.cap != 0) = false := by rw [hc]; rfl
    have bc : (I.cap == 0) = true := by rw [hc]; rfl
    by_cases n1 : 0 < I.items.length
    · have HF : Hid (checkR I = 4) := Lib.hid (by have hk := HK.out; exact check_lean ⟨k1, k2⟩ (by omega))
      (try clear hk); (try clear hz); (try clear hc)
      go_enter Tryd.func33, Tryd.ntmps33
      go_wp2
      go_ret
      exact ⟨by rw [HF.out]; rfl, bl_alloc (Below.refl _ _) _⟩
    · by_cases hz : I.size = 0
      · have az : (I.size != 0) = false := by rw [hz]; rfl
        have bz : (I.size == 0) = true := by rw [hz]; rfl
        by_cases n3 : 0 < I.sets.length
        · have HF : Hid (checkR I = 4) := Lib.hid (by have hk := HK.out; exact check_lean ⟨k1, k2⟩ (by omega))
          (try clear hk); (try clear hz); (try clear hc)
          go_enter Tryd.func33, Tryd.ntmps33
          go_wp2
          go_ret
          exact ⟨by rw [HF.out]; rfl, bl_alloc (Below.refl _ _) _⟩
        · by_cases q1 : 4096 < I.items.length
          · exfalso; omega
          · by_cases q2 : 4096 < I.sets.length
            · exfalso; omega
            · by_cases q3 : 64 < I.cost.length
              · have HF : Hid (checkR I = 22) := Lib.hid (by have hk := HK.out; exact check_few ⟨k1, k2⟩ (by omega) (by omega))
                (try clear hk); (try clear hz); (try clear hc)
                go_enter Tryd.func33, Tryd.ntmps33
                go_wp2
                go_ret
                exact ⟨by rw [HF.out]; rfl, bl_alloc (Below.refl _ _) _⟩
              · by_cases q4 : I.cost.length = 0
                · have e4 : ((I.cost.length : Int) == 0) = true := by rw [q4]; rfl
                  have HQ4 := Lib.hid q4
                  clear q4
                  have HF : Hid (checkR I = 22) := Lib.hid (by have q4 := HQ4.out; have hk := HK.out; exact check_few ⟨k1, k2⟩ (by omega) (by omega))
                  (try clear hk); (try clear hz); (try clear hc)
                  go_enter Tryd.func33, Tryd.ntmps33
                  go_wp2
                  go_ret
                  exact ⟨by rw [HF.out]; rfl, bl_alloc (Below.refl _ _) _⟩
                · have e4 : ((I.cost.length : Int) == 0) = false := by rw [beq_eq_false_iff_ne]; omega
                  by_cases q5 : I.size < 0
                  · exfalso; omega
                  · by_cases q6 : 4096 < I.size
                    · exfalso; omega
                    · have d6 : decide (4096 < I.size) = false := by simpa using q6
                      have HCK : Hid (checkR I = chk6 true true true (shapedB I) (smallB I) (bareB I)) := Lib.hid (by have hk := HK.out; exact check_rest ⟨k1, k2⟩ (by omega) (by omega))
                      (try clear hk); (try clear hz); (try clear hc)
                      go_enter Tryd.func33, Tryd.ntmps33
                      go_wp2_with fail
                      have Bi0 := Blk.new w 36 #[.int .i64 I.kind, .int .i64 I.cap, .slice A1 I.items.length c1, .slice A2 I.cost.length c2, .int .i64 I.size, .slice A3 I.sets.length c3]
                      have bl0 : Below w.heap.size w (w.alloc (.cells #[.int .i64 I.kind, .int .i64 I.cap, .slice A1 I.items.length c1, .slice A2 I.cost.length c2, .int .i64 I.size, .slice A3 I.sets.length c3] 36)) := bl_alloc (Below.refl _ _) _
                      generalize w.alloc (.cells #[.int .i64 I.kind, .int .i64 I.cap, .slice A1 I.items.length c1, .slice A2 I.cost.length c2, .int .i64 I.size, .slice A3 I.sets.length c3] 36) = w0 at Bi0 bl0 ⊢
                      have x0_z : w.heap.size < w0.heap.size := Bi0.lt
                      have x0_c0 : w0.cell? ⟨w.heap.size, 0, none⟩ = some (.int .i64 I.kind) := (Bi0.cell 0).trans rfl
                      have x0_f0 := Bi0.frozen 0
                      have x0_c1 : w0.cell? ⟨w.heap.size, 1, none⟩ = some (.int .i64 I.cap) := (Bi0.cell 1).trans rfl
                      have x0_f1 := Bi0.frozen 1
                      have x0_c2 : w0.cell? ⟨w.heap.size, 2, none⟩ = some (.slice A1 I.items.length c1) := (Bi0.cell 2).trans rfl
                      have x0_f2 := Bi0.frozen 2
                      have x0_c3 : w0.cell? ⟨w.heap.size, 3, none⟩ = some (.slice A2 I.cost.length c2) := (Bi0.cell 3).trans rfl
                      have x0_f3 := Bi0.frozen 3
                      have x0_c4 : w0.cell? ⟨w.heap.size, 4, none⟩ = some (.int .i64 I.size) := (Bi0.cell 4).trans rfl
                      have x0_f4 := Bi0.frozen 4
                      have x0_c5 : w0.cell? ⟨w.heap.size, 5, none⟩ = some (.slice A3 I.sets.length c3) := (Bi0.cell 5).trans rfl
                      have x0_f5 := Bi0.frozen 5
                      go_loopw [4] (fun vi wr => ∃ i : Nat, vi = .int .i64 i ∧ i ≤ I.cost.length ∧ Hid (shapedB I = (((I.cost.drop i).all fun r => r.length == I.cost.length) && I.sets.all fun p => risesB (-1) I.size p.2)) ∧ Blk wr w.heap.size 36 #[.int .i64 I.kind, .int .i64 I.cap, .slice A1 I.items.length c1, .slice A2 I.cost.length c2, .int .i64 I.size, .slice A3 I.sets.length c3] ∧ Below w.heap.size w wr) (fun vi _ => I.cost.length - (intOf vi).toNat)
                      case atStart => exact ⟨0, rfl, Nat.zero_le _, Lib.hid rfl, Bi0, bl0⟩
                      case round =>
                        clear Bi0 bl0 x0_z x0_c0 x0_f0 x0_c1 x0_f1 x0_c2 x0_f2 x0_c3 x0_f3 x0_c4 x0_f4 x0_c5 x0_f5
                        obtain ⟨i, rfl, hi, HE, hBx, be⟩ := hrel
                        have x1_z : w.heap.size < wr.heap.size := hBx.lt
                        have x1_c0 : wr.cell? ⟨w.heap.size, 0, none⟩ = some (.int .i64 I.kind) := (hBx.cell 0).trans rfl
                        have x1_f0 := hBx.frozen 0
                        have x1_c1 : wr.cell? ⟨w.heap.size, 1, none⟩ = some (.int .i64 I.cap) := (hBx.cell 1).trans rfl
                        have x1_f1 := hBx.frozen 1
                        have x1_c2 : wr.cell? ⟨w.heap.size, 2, none⟩ = some (.slice A1 I.items.length c1) := (hBx.cell 2).trans rfl
                        have x1_f2 := hBx.frozen 2
                        have x1_c3 : wr.cell? ⟨w.heap.size, 3, none⟩ = some (.slice A2 I.cost.length c2) := (hBx.cell 3).trans rfl
                        have x1_f3 := hBx.frozen 3
                        have x1_c4 : wr.cell? ⟨w.heap.size, 4, none⟩ = some (.int .i64 I.size) := (hBx.cell 4).trans rfl
                        have x1_f4 := hBx.frozen 4
                        have x1_c5 : wr.cell? ⟨w.heap.size, 5, none⟩ = some (.slice A3 I.sets.length c3) := (hBx.cell 5).trans rfl
                        have x1_f5 := hBx.frozen 5
                        by_cases hlt : i < I.cost.length
                        · obtain ⟨r, hr⟩ : ∃ r, I.cost[i]? = some r := ⟨_, List.getElem?_eq_getElem hlt⟩
                          obtain ⟨b, o, A', c', rfl, hb, hc, h4, h5, h6⟩ := (HI.out.below be).cost.get hr
                          have hd := drop_get hr
                          by_cases hl : r.length = I.cost.length
                          · have HN : Hid (shapedB I = (((I.cost.drop (i + 1)).all fun r => r.length == I.cost.length) && I.sets.all fun p => risesB (-1) I.size p.2)) := Lib.hid (by rw [HE.out, hd]; simp [hl])
                            have j1 : (r.length == I.cost.length) = true := by simpa using hl
                            have j2 : ((r.length : Int) == (I.cost.length : Int)) = true := by rw [hl]; simp
                            have j3 : (r.length != I.cost.length) = false := by simpa using hl
                            have j4 : ((r.length : Int) != (I.cost.length : Int)) = false := by rw [hl]; simp
                            clear hl hd hr h6
                            go_wp2_with fail
                            go_quiet (fail)
                            go_wp2_with fail
                            go_roundw
                            case rel => exact ⟨i + 1, by go_num, by omega, HN, hBx.drewN _, bl_drewN be _⟩
                            case measure => simp only [intOf]; omega
                          · have HN : Hid (checkR I = 4) := Lib.hid (by rw [HCK.out, HE.out, hd]; simp [hl, chk6])
                            have j1 : (r.length == I.cost.length) = false := by simpa using hl
                            have j2 : ((r.length : Int) == (I.cost.length : Int)) = false := by simp; omega
                            have j3 : (r.length != I.cost.length) = true := by simpa using hl
                            have j4 : ((r.length : Int) != (I.cost.length : Int)) = true := by simp; omega
                            clear hl hd hr h6
                            go_wp2_with fail
                            go_quiet (fail)
                            go_wp2
                            go_ret
                            exact ⟨by rw [HN.out]; rfl, bl_drewN be _⟩
                        · obtain rfl : i = I.cost.length := by omega
                          have HE : Hid (shapedB I = I.sets.all fun p => risesB (-1) I.size p.2) := Lib.hid (by rw [HE.out]; simp)
                          clear hlt hi
                          go_wp2_with fail
                          go_loopw [5] (fun vi wr => ∃ i : Nat, vi = .int .i64 i ∧ i ≤ I.sets.length ∧ Hid (shapedB I = (I.sets.drop i).all fun p => risesB (-1) I.size p.2) ∧ Blk wr w.heap.size 36 #[.int .i64 I.kind, .int .i64 I.cap, .slice A1 I.items.length c1, .slice A2 I.cost.length c2, .int .i64 I.size, .slice A3 I.sets.length c3] ∧ Below w.heap.size w wr) (fun vi _ => I.sets.length - (intOf vi).toNat)
                          case atStart => exact ⟨0, rfl, Nat.zero_le _, HE, hBx, be⟩
                          case round =>
                            clear hBx be HE x1_z x1_c0 x1_f0 x1_c1 x1_f1 x1_c2 x1_f2 x1_c3 x1_f3 x1_c4 x1_f4 x1_c5 x1_f5
                            obtain ⟨i, rfl, hi, HE, hBx, be⟩ := hrel
                            generalize wr = wo at hBx be ⊢
                            have x2_z : w.heap.size < wo.heap.size := hBx.lt
                            have x2_c0 : wo.cell? ⟨w.heap.size, 0, none⟩ = some (.int .i64 I.kind) := (hBx.cell 0).trans rfl
                            have x2_f0 := hBx.frozen 0
                            have x2_c1 : wo.cell? ⟨w.heap.size, 1, none⟩ = some (.int .i64 I.cap) := (hBx.cell 1).trans rfl
                            have x2_f1 := hBx.frozen 1
                            have x2_c2 : wo.cell? ⟨w.heap.size, 2, none⟩ = some (.slice A1 I.items.length c1) := (hBx.cell 2).trans rfl
                            have x2_f2 := hBx.frozen 2
                            have x2_c3 : wo.cell? ⟨w.heap.size, 3, none⟩ = some (.slice A2 I.cost.length c2) := (hBx.cell 3).trans rfl
                            have x2_f3 := hBx.frozen 3
                            have x2_c4 : wo.cell? ⟨w.heap.size, 4, none⟩ = some (.int .i64 I.size) := (hBx.cell 4).trans rfl
                            have x2_f4 := hBx.frozen 4
                            have x2_c5 : wo.cell? ⟨w.heap.size, 5, none⟩ = some (.slice A3 I.sets.length c3) := (hBx.cell 5).trans rfl
                            have x2_f5 := hBx.frozen 5
                            by_cases hlt : i < I.sets.length
                            · exfalso; omega
                            · obtain rfl : i = I.sets.length := by omega
                              have HT : Hid (shapedB I = true) := Lib.hid (by rw [HE.out, List.drop_length]; rfl)
                              have HCK2 : Hid (checkR I = chk6 true true true true (smallB I) (bareB I)) := Lib.hid (by rw [HCK.out, HT.out])
                              have HNU := fun w' (hb : Below w.heap.size w w') => numbers_any I A1 A2 A3 c1 c2 c3 w' (HI.out.below hb)
                              have HSQ := Lib.hid (shaped_sq HT.out)
                              clear HE hlt hi HCK
                              generalize smallB I = x at HNU HCK2
                              replace HNU := Lib.hid HNU
                              go_wp2_with fail
                              (with_reducible refine (HNU.out _ be).mono ?_); rintro e v1 ⟨rfl, hb1⟩
                              have be1 := bl_step be hb1
                              have hBz := hBx.below hb1
                              clear hBx be HNU x2_z x2_c0 x2_f0 x2_c1 x2_f1 x2_c2 x2_f2 x2_c3 x2_f3 x2_c4 x2_f4 x2_c5 x2_f5
                              have x4_z : w.heap.size < v1.heap.size := hBz.lt
                              have x4_c0 : v1.cell? ⟨w.heap.size, 0, none⟩ = some (.int .i64 I.kind) := (hBz.cell 0).trans rfl
                              have x4_f0 := hBz.frozen 0
                              have x4_c1 : v1.cell? ⟨w.heap.size, 1, none⟩ = some (.int .i64 I.cap) := (hBz.cell 1).trans rfl
                              have x4_f1 := hBz.frozen 1
                              have x4_c2 : v1.cell? ⟨w.heap.size, 2, none⟩ = some (.slice A1 I.items.length c1) := (hBz.cell 2).trans rfl
                              have x4_f2 := hBz.frozen 2
                              have x4_c3 : v1.cell? ⟨w.heap.size, 3, none⟩ = some (.slice A2 I.cost.length c2) := (hBz.cell 3).trans rfl
                              have x4_f3 := hBz.frozen 3
                              have x4_c4 : v1.cell? ⟨w.heap.size, 4, none⟩ = some (.int .i64 I.size) := (hBz.cell 4).trans rfl
                              have x4_f4 := hBz.frozen 4
                              have x4_c5 : v1.cell? ⟨w.heap.size, 5, none⟩ = some (.slice A3 I.sets.length c3) := (hBz.cell 5).trans rfl
                              have x4_f5 := hBz.frozen 5
                              cases x
                              · have HF : Hid (checkR I = 22) := Lib.hid (by rw [HCK2.out]; rfl)
                                go_wp2
                                go_ret
                                exact ⟨by rw [HF.out]; rfl, be1⟩
                              · have HCK3 : Hid (checkR I = if bareB I = true then 0 else 4) := Lib.hid (by rw [HCK2.out]; rfl)
                                clear HCK2
                                go_wp2_with fail
                                go_loop [9] (fun vi => ∃ i : Nat, vi = .int .i64 i ∧ i ≤ I.cost.length ∧ Hid (bareB I = (!(I.kind == 2) || bareFrom i (I.cost.drop i)))) (fun vi => I.cost.length - (intOf vi).toNat)
                                case atStart => exact ⟨0, rfl, Nat.zero_le _, Lib.hid rfl⟩
                                case round =>
                                  obtain ⟨i, rfl, hi, HE⟩ := hrel
                                  by_cases hlt : i < I.cost.length
                                  · obtain ⟨r, hr⟩ : ∃ r, I.cost[i]? = some r := ⟨_, List.getElem?_eq_getElem hlt⟩
                                    obtain ⟨g, o, A', c', rfl, hb, hc, h4, h5, h6⟩ := (HI.out.below be1).cost.get hr
                                    have hlen := HSQ.out r (List.mem_of_getElem? hr)
                                    obtain ⟨x, hx⟩ : ∃ x, r[i]? = some x := ⟨_, List.getElem?_eq_getElem (by omega)⟩
                                    obtain ⟨g', o', rfl, hb', hcx⟩ := h6.get hx
                                    have hd := drop_get hr
                                    have hir : i < r.length := by omega
                                    have hgd : r.getD i 0 = x := by rw [List.getD, hx]; rfl
                                    by_cases h0 : x = 0
                                    · have HN : Hid (bareB I = (!(I.kind == 2) || bareFrom (i + 1) (I.cost.drop (i + 1)))) := Lib.hid (by rw [HE.out, hd]; simp [bareFrom, hx, h0])
                                      have g0 : (x != 0) = false := by simpa using h0
                                      clear hd hr hlen hx h6 h0 hgd
                                      go_wp2_with fail
                                      go_round
                                      case rel => exact ⟨i + 1, by go_num, by omega, HN⟩
                                      case measure => simp only [intOf]; omega
                                    · have HN : Hid (checkR I = 4) := Lib.hid (by rw [HCK3.out, HE.out, hd, g2]; simp [bareFrom, hx, h0])
                                      have g0 : (x != 0) = true := by simpa using h0
                                      clear hd hr hlen hx h6 h0 hgd
                                      go_wp2
                                      go_ret
                                      exact ⟨by rw [HN.out]; rfl, be1⟩
                                  · obtain rfl : i = I.cost.length := by omega
                                    have HN : Hid (checkR I = 0) := Lib.hid (by rw [HCK3.out, HE.out, List.drop_length]; simp [bareFrom])
                                    go_wp2
                                    go_ret
                                    exact ⟨by rw [HN.out]; rfl, be1⟩
      · have az : (I.size != 0) = true := by simpa using hz
        have bz : (I.size == 0) = false := by simpa using hz
        have HF : Hid (checkR I = 4) := Lib.hid (by have hk := HK.out; exact check_lean ⟨k1, k2⟩ (by omega))
        (try clear hk); (try clear hz); (try clear hc)
        go_enter Tryd.func33, Tryd.ntmps33
        go_wp2
        go_ret
        exact ⟨by rw [HF.out]; rfl, bl_alloc (Below.refl _ _) _⟩
  · have ac : (I.cap != 0) = true := by simpa using hc
    have bc : (I.cap == 0) = false := by simpa using hc
    have HF : Hid (checkR I = 4) := Lib.hid (by have hk := HK.out; exact check_lean ⟨k1, k2⟩ (by omega))
    (try clear hk); (try clear hz); (try clear hc)
    go_enter Tryd.func33, Tryd.ntmps33
    go_wp2
    go_ret
    exact ⟨by rw [HF.out]; rfl, bl_alloc (Below.refl _ _) _⟩
set_option maxHeartbeats 12800000 in
theorem bcheck_3 (I : IData) (A1 A2 A3 : Option Addr) (c1 c2 c3 : Nat) (w : World) {B : Nat} (hI : InstAt w B I A1 c1 A2 c2 A3 c3) (hk : I.kind = 3) : Calls Tryd.prog 33 #[.agg #[.int .i64 I.kind, .int .i64 I.cap, .slice A1 I.items.length c1, .slice A2 I.cost.length c2, .int .i64 I.size, .slice A3 I.sets.length c3]] w fun e w' => e = .returned (.int .i64 (checkR I)) ∧ Below w.heap.size w w' := by
  have HI := Lib.hid hI
  have N1 := hI.n1
  have N2 := hI.n2
  have N3 := hI.n3
  clear hI
  have k1 : 0 ≤ I.kind := by omega
  have k2 : I.kind ≤ 3 := by omega
  have g1 : (I.kind == 1) = false := by rw [hk]; rfl
  have g2 : (I.kind == 2) = false := by rw [hk]; rfl
  have g0 : (I.kind == 0) = false := by rw [hk]; rfl
  have g3 : (I.kind == 3) = true := by rw [hk]; rfl
  have m0 : (I.kind != 0) = true := by rw [hk]; rfl
  have m3 : (I.kind != 3) = false := by rw [hk]; rfl
  have HK := Lib.hid hk
  by_cases hc : I.cap = 0
  · have ac : (I.cap != 0) = false := by rw [hc]; rfl
    have bc : (I.cap == 0) = true := by rw [hc]; rfl
    by_cases n1 : 0 < I.items.length
    · have HF : Hid (checkR I = 4) := Lib.hid (by have hk := HK.out; exact check_lean ⟨k1, k2⟩ (by omega))
      (try clear hk); (try clear hz); (try clear hc)
      go_enter Tryd.func33, Tryd.ntmps33
      go_wp2
      go_ret
      exact ⟨by rw [HF.out]; rfl, bl_alloc (Below.refl _ _) _⟩
    · by_cases n2 : 0 < I.cost.length
      · have HF : Hid (checkR I = 4) := Lib.hid (by have hk := HK.out; exact check_lean ⟨k1, k2⟩ (by omega))
        (try clear hk); (try clear hz); (try clear hc)
        go_enter Tryd.func33, Tryd.ntmps33
        go_wp2
        go_ret
        exact ⟨by rw [HF.out]; rfl, bl_alloc (Below.refl _ _) _⟩
      · by_cases q1 : 4096 < I.items.length
        · exfalso; omega
        · by_cases q2 : 4096 < I.sets.length
          · have HF : Hid (checkR I = 22) := Lib.hid (by have hk := HK.out; exact check_few ⟨k1, k2⟩ (by omega) (by omega))
            (try clear hk); (try clear hz); (try clear hc)
            go_enter Tryd.func33, Tryd.ntmps33
            go_wp2
            go_ret
            exact ⟨by rw [HF.out]; rfl, bl_alloc (Below.refl _ _) _⟩
          · by_cases q3 : 64 < I.cost.length
            · exfalso; omega
            · by_cases q5 : I.size < 0
              · have HF : Hid (checkR I = 22) := Lib.hid (by have hk := HK.out; exact check_few ⟨k1, k2⟩ (by omega) (by omega))
                (try clear hk); (try clear hz); (try clear hc)
                go_enter Tryd.func33, Tryd.ntmps33
                go_wp2
                go_ret
                exact ⟨by rw [HF.out]; rfl, bl_alloc (Below.refl _ _) _⟩
              · by_cases q6 : 4096 < I.size
                · have d6 : decide (4096 < I.size) = true := by simpa using q6
                  have HF : Hid (checkR I = 22) := Lib.hid (by have hk := HK.out; exact check_few ⟨k1, k2⟩ (by omega) (by omega))
                  (try clear hk); (try clear hz); (try clear hc)
                  go_enter Tryd.func33, Tryd.ntmps33
                  go_wp2
                  go_ret
                  exact ⟨by rw [HF.out]; rfl, bl_alloc (Below.refl _ _) _⟩
                · have d6 : decide (4096 < I.size) = false := by simpa using q6
                  have HCK : Hid (checkR I = chk6 true true true (shapedB I) (smallB I) (bareB I)) := Lib.hid (by have hk := HK.out; exact check_rest ⟨k1, k2⟩ (by omega) (by omega))
                  (try clear hk); (try clear hz); (try clear hc)
                  go_enter Tryd.func33, Tryd.ntmps33
                  go_wp2_with fail
                  have Bi0 := Blk.new w 36 #[.int .i64 I.kind, .int .i64 I.cap, .slice A1 I.items.length c1, .slice A2 I.cost.length c2, .int .i64 I.size, .slice A3 I.sets.length c3]
                  have bl0 : Below w.heap.size w (w.alloc (.cells #[.int .i64 I.kind, .int .i64 I.cap, .slice A1 I.items.length c1, .slice A2 I.cost.length c2, .int .i64 I.size, .slice A3 I.sets.length c3] 36)) := bl_alloc (Below.refl _ _) _
                  generalize w.alloc (.cells #[.int .i64 I.kind, .int .i64 I.cap, .slice A1 I.items.length c1, .slice A2 I.cost.length c2, .int .i64 I.size, .slice A3 I.sets.length c3] 36) = w0 at Bi0 bl0 ⊢
                  have x0_z : w.heap.size < w0.heap.size := Bi0.lt
                  have x0_c0 : w0.cell? ⟨w.heap.size, 0, none⟩ = some (.int .i64 I.kind) := (Bi0.cell 0).trans rfl
                  have x0_f0 := Bi0.frozen 0
                  have x0_c1 : w0.cell? ⟨w.heap.size, 1, none⟩ = some (.int .i64 I.cap) := (Bi0.cell 1).trans rfl
                  have x0_f1 := Bi0.frozen 1
                  have x0_c2 : w0.cell? ⟨w.heap.size, 2, none⟩ = some (.slice A1 I.items.length c1) := (Bi0.cell 2).trans rfl
                  have x0_f2 := Bi0.frozen 2
                  have x0_c3 : w0.cell? ⟨w.heap.size, 3, none⟩ = some (.slice A2 I.cost.length c2) := (Bi0.cell 3).trans rfl
                  have x0_f3 := Bi0.frozen 3
                  have x0_c4 : w0.cell? ⟨w.heap.size, 4, none⟩ = some (.int .i64 I.size) := (Bi0.cell 4).trans rfl
                  have x0_f4 := Bi0.frozen 4
                  have x0_c5 : w0.cell? ⟨w.heap.size, 5, none⟩ = some (.slice A3 I.sets.length c3) := (Bi0.cell 5).trans rfl
                  have x0_f5 := Bi0.frozen 5
                  go_loopw [4] (fun vi wr => ∃ i : Nat, vi = .int .i64 i ∧ i ≤ I.cost.length ∧ Hid (shapedB I = (((I.cost.drop i).all fun r => r.length == I.cost.length) && I.sets.all fun p => risesB (-1) I.size p.2)) ∧ Blk wr w.heap.size 36 #[.int .i64 I.kind, .int .i64 I.cap, .slice A1 I.items.length c1, .slice A2 I.cost.length c2, .int .i64 I.size, .slice A3 I.sets.length c3] ∧ Below w.heap.size w wr) (fun vi _ => I.cost.length - (intOf vi).toNat)
                  case atStart => exact ⟨0, rfl, Nat.zero_le _, Lib.hid rfl, Bi0, bl0⟩
                  case round =>
                    clear Bi0 bl0 x0_z x0_c0 x0_f0 x0_c1 x0_f1 x0_c2 x0_f2 x0_c3 x0_f3 x0_c4 x0_f4 x0_c5 x0_f5
                    obtain ⟨i, rfl, hi, HE, hBx, be⟩ := hrel
                    have x1_z : w.heap.size < wr.heap.size := hBx.lt
                    have x1_c0 : wr.cell? ⟨w.heap.size, 0, none⟩ = some (.int .i64 I.kind) := (hBx.cell 0).trans rfl
                    have x1_f0 := hBx.frozen 0
                    have x1_c1 : wr.cell? ⟨w.heap.size, 1, none⟩ = some (.int .i64 I.cap) := (hBx.cell 1).trans rfl
                    have x1_f1 := hBx.frozen 1
                    have x1_c2 : wr.cell? ⟨w.heap.size, 2, none⟩ = some (.slice A1 I.items.length c1) := (hBx.cell 2).trans rfl
                    have x1_f2 := hBx.frozen 2
                    have x1_c3 : wr.cell? ⟨w.heap.size, 3, none⟩ = some (.slice A2 I.cost.length c2) := (hBx.cell 3).trans rfl
                    have x1_f3 := hBx.frozen 3
                    have x1_c4 : wr.cell? ⟨w.heap.size, 4, none⟩ = some (.int .i64 I.size) := (hBx.cell 4).trans rfl
                    have x1_f4 := hBx.frozen 4
                    have x1_c5 : wr.cell? ⟨w.heap.size, 5, none⟩ = some (.slice A3 I.sets.length c3) := (hBx.cell 5).trans rfl
                    have x1_f5 := hBx.frozen 5
                    by_cases hlt : i < I.cost.length
                    · exfalso; omega
                    · obtain rfl : i = I.cost.length := by omega
                      have HE : Hid (shapedB I = I.sets.all fun p => risesB (-1) I.size p.2) := Lib.hid (by rw [HE.out]; simp)
                      clear hlt hi
                      go_wp2_with fail
                      go_loopw [5] (fun vi wr => ∃ i : Nat, vi = .int .i64 i ∧ i ≤ I.sets.length ∧ Hid (shapedB I = (I.sets.drop i).all fun p => risesB (-1) I.size p.2) ∧ Blk wr w.heap.size 36 #[.int .i64 I.kind, .int .i64 I.cap, .slice A1 I.items.length c1, .slice A2 I.cost.length c2, .int .i64 I.size, .slice A3 I.sets.length c3] ∧ Below w.heap.size w wr) (fun vi _ => I.sets.length - (intOf vi).toNat)
                      case atStart => exact ⟨0, rfl, Nat.zero_le _, HE, hBx, be⟩
                      case round =>
                        clear hBx be HE x1_z x1_c0 x1_f0 x1_c1 x1_f1 x1_c2 x1_f2 x1_c3 x1_f3 x1_c4 x1_f4 x1_c5 x1_f5
                        obtain ⟨i, rfl, hi, HE, hBx, be⟩ := hrel
                        generalize wr = wo at hBx be ⊢
                        have x2_z : w.heap.size < wo.heap.size := hBx.lt
                        have x2_c0 : wo.cell? ⟨w.heap.size, 0, none⟩ = some (.int .i64 I.kind) := (hBx.cell 0).trans rfl
                        have x2_f0 := hBx.frozen 0
                        have x2_c1 : wo.cell? ⟨w.heap.size, 1, none⟩ = some (.int .i64 I.cap) := (hBx.cell 1).trans rfl
                        have x2_f1 := hBx.frozen 1
                        have x2_c2 : wo.cell? ⟨w.heap.size, 2, none⟩ = some (.slice A1 I.items.length c1) := (hBx.cell 2).trans rfl
                        have x2_f2 := hBx.frozen 2
                        have x2_c3 : wo.cell? ⟨w.heap.size, 3, none⟩ = some (.slice A2 I.cost.length c2) := (hBx.cell 3).trans rfl
                        have x2_f3 := hBx.frozen 3
                        have x2_c4 : wo.cell? ⟨w.heap.size, 4, none⟩ = some (.int .i64 I.size) := (hBx.cell 4).trans rfl
                        have x2_f4 := hBx.frozen 4
                        have x2_c5 : wo.cell? ⟨w.heap.size, 5, none⟩ = some (.slice A3 I.sets.length c3) := (hBx.cell 5).trans rfl
                        have x2_f5 := hBx.frozen 5
                        by_cases hlt : i < I.sets.length
                        · obtain ⟨p, hp⟩ : ∃ p, I.sets[i]? = some p := ⟨_, List.getElem?_eq_getElem hlt⟩
                          obtain ⟨b, o, A', c', rfl, hb, hc1, hc2, h4, h5, h6⟩ := (HI.out.below be).sets.get hp
                          have hd := drop_get hp
                          have HP : Hid (shapedB I = (risesB (-1) I.size p.2 && (I.sets.drop (i + 1)).all fun p => risesB (-1) I.size p.2)) := Lib.hid (by rw [HE.out, hd]; rfl)
                          have HEE := Lib.hid h6
                          have HBB := Lib.hid (HI.out.below be).bd
                          clear hp hd h6 HE
                          go_wp2_with fail
                          go_loopw [7] (fun vj wr => ∃ j : Nat, vj = .int .i64 j ∧ j ≤ p.2.length ∧ Hid (risesB (-1) I.size p.2 = risesB (if j = 0 then -1 else p.2.getD (j - 1) 0) I.size (p.2.drop j)) ∧ Hid (-1 ≤ (if j = 0 then (-1 : Int) else p.2.getD (j - 1) 0)) ∧ Below wo.heap.size wo wr) (fun vj _ => p.2.length - (intOf vj).toNat)
                          case atStart => exact ⟨0, rfl, Nat.zero_le _, Lib.hid rfl, Lib.hid (by simp), Below.refl _ _⟩
                          case round =>
                            clear x2_z x2_c0 x2_f0 x2_c1 x2_f1 x2_c2 x2_f2 x2_c3 x2_f3 x2_c4 x2_f4 x2_c5 x2_f5 hc1 hc2
                            obtain ⟨j, rfl, hj, HR, HLO, be2⟩ := hrel
                            have hBy := hBx.below be2
                            have x3_z : w.heap.size < wr.heap.size := hBy.lt
                            have x3_c0 : wr.cell? ⟨w.heap.size, 0, none⟩ = some (.int .i64 I.kind) := (hBy.cell 0).trans rfl
                            have x3_f0 := hBy.frozen 0
                            have x3_c1 : wr.cell? ⟨w.heap.size, 1, none⟩ = some (.int .i64 I.cap) := (hBy.cell 1).trans rfl
                            have x3_f1 := hBy.frozen 1
                            have x3_c2 : wr.cell? ⟨w.heap.size, 2, none⟩ = some (.slice A1 I.items.length c1) := (hBy.cell 2).trans rfl
                            have x3_f2 := hBy.frozen 2
                            have x3_c3 : wr.cell? ⟨w.heap.size, 3, none⟩ = some (.slice A2 I.cost.length c2) := (hBy.cell 3).trans rfl
                            have x3_f3 := hBy.frozen 3
                            have x3_c4 : wr.cell? ⟨w.heap.size, 4, none⟩ = some (.int .i64 I.size) := (hBy.cell 4).trans rfl
                            have x3_f4 := hBy.frozen 4
                            have x3_c5 : wr.cell? ⟨w.heap.size, 5, none⟩ = some (.slice (some ⟨b, o, none⟩) I.sets.length c3) := (hBy.cell 5).trans rfl
                            have x3_f5 := hBy.frozen 5
                            by_cases hlt2 : j < p.2.length
                            · obtain ⟨e, he⟩ : ∃ e, p.2[j]? = some e := ⟨_, List.getElem?_eq_getElem hlt2⟩
                              have hEk := HEE.out.keep (Alike.of_below be2 HBB.out)
                              obtain ⟨b', o', rfl, hb', hce⟩ := hEk.get he
                              have hd := drop_get he
                              have j0 : (0 : Int) ≤ (j : Int) := by omega
                              have jl : (j : Int) < (p.2.length : Int) := by omega
                              by_cases hz0 : j = 0
                              · have z1 : decide ((0 : Int) < (j : Int)) = false := by simp [hz0]
                                have z2 : decide (0 < j) = false := by simp [hz0]
                                have hlast : (if j = 0 then (-1 : Int) else p.2.getD (j - 1) 0) = -1 := if_pos hz0
                                have HRL : Hid (risesB (-1) I.size p.2 = (!(decide (e ≤ -1) || decide (I.size ≤ e)) && risesB e I.size (p.2.drop (j + 1)))) := Lib.hid (by rw [HR.out, hlast, hd]; rfl)
                                have hge : p.2.getD j 0 = e := by rw [List.getD, he]; rfl
                                have HGE := Lib.hid hge
                                have hlo := HLO.out
                                rw [hlast] at hlo
                                clear hd he hlast hz0 hEk HR hge HLO 
                                by_cases w1 : e < 0
                                · have v1 : decide (e < 0) = true := by simpa using w1
                                  have HF : Hid (checkR I = 4) := Lib.hid (by rw [HCK.out, HP.out, HRL.out]; have : e ≤ -1 := (by omega); simp [this, chk6])
                                  go_wp2_with fail
                                  go_quiet (fail)
                                  go_wp2
                                  go_ret
                                  exact ⟨by rw [HF.out]; rfl, bl_drewN (bl_step be be2) _⟩
                                · have v1 : decide (e < 0) = false := by simpa using w1
                                  by_cases w2 : I.size ≤ e
                                  · have v2 : decide (I.size ≤ e) = true := by simpa using w2
                                    have HF : Hid (checkR I = 4) := Lib.hid (by rw [HCK.out, HP.out, HRL.out]; simp [w2, chk6])
                                    go_wp2_with fail
                                    go_quiet (fail)
                                    go_wp2
                                    go_ret
                                    exact ⟨by rw [HF.out]; rfl, bl_drewN (bl_step be be2) _⟩
                                  · have v2 : decide (I.size ≤ e) = false := by simpa using w2
                                    have HN : Hid (risesB (-1) I.size p.2 = risesB (if j + 1 = 0 then -1 else p.2.getD (j + 1 - 1) 0) I.size (p.2.drop (j + 1))) := Lib.hid (by
                                      rw [HRL.out, if_neg (by omega), show j + 1 - 1 = j by omega, HGE.out]; simp [w2]; omega)
                                    go_wp2_with fail
                                    go_quiet (fail)
                                    go_wp2_with fail
                                    go_roundw
                                    case rel => exact ⟨j + 1, by go_num, by omega, HN, Lib.hid (by rw [if_neg (by omega), show j + 1 - 1 = j by omega, HGE.out]; omega), bl_drewN be2 _⟩
                                    case measure => simp only [intOf]; omega
                              · have z1 : decide ((0 : Int) < (j : Int)) = true := by simp; omega
                                have z2 : decide (0 < j) = true := by simp; omega
                                obtain ⟨q, hq⟩ : ∃ q, p.2[j - 1]? = some q := ⟨_, List.getElem?_eq_getElem (by omega)⟩
                                have hgq : p.2.getD (j - 1) 0 = q := by rw [List.getD, hq]; rfl
                                have hlast : (if j = 0 then (-1 : Int) else p.2.getD (j - 1) 0) = q := by rw [if_neg hz0]; exact hgq
                                obtain ⟨b2, o2, e2, hb2, hcq⟩ := hEk.get hq
                                injection e2 with e2
                                injection e2 with e2a e2b
                                subst e2a
                                subst e2b
                                have y1 : IntKind.i64.wrap ((j : Int) - 1) = (j : Int) - 1 := IntWalk.i64_in _ ⟨by omega, by omega⟩
                                have y2 : (0 : Int) ≤ (j : Int) - 1 := by omega
                                have y3 : ((j : Int) - 1).toNat = j - 1 := by omega
                                have y4 : (j : Int) - 1 < (p.2.length : Int) := by omega
                                have y5 : 1 ≤ j := by omega
                                have HRL : Hid (risesB (-1) I.size p.2 = (!(decide (e ≤ q) || decide (I.size ≤ e)) && risesB e I.size (p.2.drop (j + 1)))) := Lib.hid (by rw [HR.out, hlast, hd]; rfl)
                                have hge : p.2.getD j 0 = e := by rw [List.getD, he]; rfl
                                have HGE := Lib.hid hge
                                have hlo := HLO.out
                                rw [hlast] at hlo
                                clear hd he hlast hz0 hEk HR hge HLO hgq hq
                                by_cases w1 : e < 0
                                · have v1 : decide (e < 0) = true := by simpa using w1
                                  have HF : Hid (checkR I = 4) := Lib.hid (by rw [HCK.out, HP.out, HRL.out]; have : e ≤ q := (by omega); simp [this, chk6])
                                  go_wp2_with fail
                                  go_quiet (fail)
                                  go_wp2
                                  go_ret
                                  exact ⟨by rw [HF.out]; rfl, bl_drewN (bl_step be be2) _⟩
                                · have v1 : decide (e < 0) = false := by simpa using w1
                                  by_cases w2 : I.size ≤ e
                                  · have v2 : decide (I.size ≤ e) = true := by simpa using w2
                                    have HF : Hid (checkR I = 4) := Lib.hid (by rw [HCK.out, HP.out, HRL.out]; simp [w2, chk6])
                                    go_wp2_with fail
                                    go_quiet (fail)
                                    go_wp2
                                    go_ret
                                    exact ⟨by rw [HF.out]; rfl, bl_drewN (bl_step be be2) _⟩
                                  · have v2 : decide (I.size ≤ e) = false := by simpa using w2
                                    by_cases w3 : e ≤ q
                                    · have v3 : decide (e ≤ q) = true := by simpa using w3
                                      have HF : Hid (checkR I = 4) := Lib.hid (by rw [HCK.out, HP.out, HRL.out]; simp [w3, chk6])
                                      go_wp2_with fail
                                      go_quiet (fail)
                                      go_wp2
                                      go_ret
                                      exact ⟨by rw [HF.out]; rfl, bl_drewN (bl_step be be2) _⟩
                                    · have v3 : decide (e ≤ q) = false := by simpa using w3
                                      have HN : Hid (risesB (-1) I.size p.2 = risesB (if j + 1 = 0 then -1 else p.2.getD (j + 1 - 1) 0) I.size (p.2.drop (j + 1))) := Lib.hid (by
                                        rw [HRL.out, if_neg (by omega), show j + 1 - 1 = j by omega, HGE.out]; simp [w2]; omega)
                                      go_wp2_with fail
                                      go_quiet (fail)
                                      go_wp2_with fail
                                      go_roundw
                                      case rel => exact ⟨j + 1, by go_num, by omega, HN, Lib.hid (by rw [if_neg (by omega), show j + 1 - 1 = j by omega, HGE.out]; omega), bl_drewN be2 _⟩
                                      case measure => simp only [intOf]; omega
                            · obtain rfl : j = p.2.length := by omega
                              have HN : Hid (shapedB I = (I.sets.drop (i + 1)).all fun p => risesB (-1) I.size p.2) := Lib.hid (by
                                rw [HP.out, HR.out, List.drop_length]; simp [risesB])
                              go_wp2_with fail
                              go_roundw
                              case rel => exact ⟨i + 1, by go_num, by omega, HN, hBy, bl_step be be2⟩
                              case measure => simp only [intOf]; omega
                        · obtain rfl : i = I.sets.length := by omega
                          have HT : Hid (shapedB I = true) := Lib.hid (by rw [HE.out, List.drop_length]; rfl)
                          have HCK2 : Hid (checkR I = chk6 true true true true (smallB I) (bareB I)) := Lib.hid (by rw [HCK.out, HT.out])
                          have HNU := fun w' (hb : Below w.heap.size w w') => numbers_any I A1 A2 A3 c1 c2 c3 w' (HI.out.below hb)
                          have HSQ := Lib.hid (shaped_sq HT.out)
                          clear HE hlt hi HCK
                          generalize smallB I = x at HNU HCK2
                          replace HNU := Lib.hid HNU
                          go_wp2_with fail
                          (with_reducible refine (HNU.out _ be).mono ?_); rintro e v1 ⟨rfl, hb1⟩
                          have be1 := bl_step be hb1
                          have hBz := hBx.below hb1
                          clear hBx be HNU x2_z x2_c0 x2_f0 x2_c1 x2_f1 x2_c2 x2_f2 x2_c3 x2_f3 x2_c4 x2_f4 x2_c5 x2_f5
                          have x4_z : w.heap.size < v1.heap.size := hBz.lt
                          have x4_c0 : v1.cell? ⟨w.heap.size, 0, none⟩ = some (.int .i64 I.kind) := (hBz.cell 0).trans rfl
                          have x4_f0 := hBz.frozen 0
                          have x4_c1 : v1.cell? ⟨w.heap.size, 1, none⟩ = some (.int .i64 I.cap) := (hBz.cell 1).trans rfl
                          have x4_f1 := hBz.frozen 1
                          have x4_c2 : v1.cell? ⟨w.heap.size, 2, none⟩ = some (.slice A1 I.items.length c1) := (hBz.cell 2).trans rfl
                          have x4_f2 := hBz.frozen 2
                          have x4_c3 : v1.cell? ⟨w.heap.size, 3, none⟩ = some (.slice A2 I.cost.length c2) := (hBz.cell 3).trans rfl
                          have x4_f3 := hBz.frozen 3
                          have x4_c4 : v1.cell? ⟨w.heap.size, 4, none⟩ = some (.int .i64 I.size) := (hBz.cell 4).trans rfl
                          have x4_f4 := hBz.frozen 4
                          have x4_c5 : v1.cell? ⟨w.heap.size, 5, none⟩ = some (.slice A3 I.sets.length c3) := (hBz.cell 5).trans rfl
                          have x4_f5 := hBz.frozen 5
                          cases x
                          · have HF : Hid (checkR I = 22) := Lib.hid (by rw [HCK2.out]; rfl)
                            go_wp2
                            go_ret
                            exact ⟨by rw [HF.out]; rfl, be1⟩
                          · have HCK3 : Hid (checkR I = if bareB I = true then 0 else 4) := Lib.hid (by rw [HCK2.out]; rfl)
                            clear HCK2
                            go_wp2_with fail
                            go_loop [9] (fun vi => ∃ i : Nat, vi = .int .i64 i ∧ i ≤ I.cost.length ∧ Hid (bareB I = (!(I.kind == 2) || bareFrom i (I.cost.drop i)))) (fun vi => I.cost.length - (intOf vi).toNat)
                            case atStart => exact ⟨0, rfl, Nat.zero_le _, Lib.hid rfl⟩
                            case round =>
                              obtain ⟨i, rfl, hi, HE⟩ := hrel
                              by_cases hlt : i < I.cost.length
                              · exfalso; omega
                              · obtain rfl : i = I.cost.length := by omega
                                have HN : Hid (checkR I = 0) := Lib.hid (by rw [HCK3.out, HE.out, List.drop_length]; simp [bareFrom])
                                go_wp2
                                go_ret
                                exact ⟨by rw [HN.out]; rfl, be1⟩
  · have ac : (I.cap != 0) = true := by simpa using hc
    have bc : (I.cap == 0) = false := by simpa using hc
    have HF : Hid (checkR I = 4) := Lib.hid (by have hk := HK.out; exact check_lean ⟨k1, k2⟩ (by omega))
    (try clear hk); (try clear hz); (try clear hc)
    go_enter Tryd.func33, Tryd.ntmps33
    go_wp2
    go_ret
    exact ⟨by rw [HF.out]; rfl, bl_alloc (Below.refl _ _) _⟩
theorem bcheck_any (I : IData) (A1 A2 A3 : Option Addr) (c1 c2 c3 : Nat) (w : World) {B : Nat} (hI : InstAt w B I A1 c1 A2 c2 A3 c3) : Calls Tryd.prog 33 #[.agg #[.int .i64 I.kind, .int .i64 I.cap, .slice A1 I.items.length c1, .slice A2 I.cost.length c2, .int .i64 I.size, .slice A3 I.sets.length c3]] w fun e w' => e = .returned (.int .i64 (checkR I)) ∧ Below w.heap.size w w' := by
  by_cases h0 : I.kind < 0
  · have HF : Hid (checkR I = 25) := Lib.hid (check_kind (.inl h0))
    have h3 : I.kind ≤ 3 := by omega
    go_enter Tryd.func33, Tryd.ntmps33
    go_wp2
    go_ret
    exact ⟨by rw [HF.out]; rfl, bl_alloc (Below.refl _ _) _⟩
  · by_cases h3 : 3 < I.kind
    · have HF : Hid (checkR I = 25) := Lib.hid (check_kind (.inr h3))
      have d3 : decide (3 < I.kind) = true := by simpa using h3
      go_enter Tryd.func33, Tryd.ntmps33
      go_wp2
      go_ret
      exact ⟨by rw [HF.out]; rfl, bl_alloc (Below.refl _ _) _⟩
    · rcases (show I.kind = 0 ∨ I.kind = 1 ∨ I.kind = 2 ∨ I.kind = 3 by omega) with h | h | h | h
      · exact bcheck_0 I A1 A2 A3 c1 c2 c3 w hI h
      · exact bcheck_1 I A1 A2 A3 c1 c2 c3 w hI h
      · exact bcheck_2 I A1 A2 A3 c1 c2 c3 w hI h
      · exact bcheck_3 I A1 A2 A3 c1 c2 c3 w hI h
theorem chk_zero {I : IData} (h : checkR I = 0) : 0 ≤ I.kind ∧ I.kind ≤ 3 ∧ ((I.kind = 0 ∨ I.cap = 0 ∧ I.items.length = 0) ∧ ((I.kind = 1 ∨ I.kind = 2) ∨ I.cost.length = 0) ∧ (I.kind = 3 ∨ I.size = 0 ∧ I.sets.length = 0)) ∧ (¬ ((I.kind = 1 ∨ I.kind = 2) ∧ (I.cost.length < 1 ∨ 64 < I.cost.length)) ∧ I.items.length ≤ 4096 ∧ I.sets.length ≤ 4096 ∧ 0 ≤ I.size ∧ I.size ≤ 4096) ∧ shapedB I = true ∧ smallB I = true ∧ bareB I = true := by
  unfold checkR chk6 at h
  by_cases ha : kindB I.kind = true
  · rw [if_pos ha] at h
    by_cases hb : lean1 I = true
    · rw [if_pos hb] at h
      by_cases hc : few1 I = true
      · rw [if_pos hc] at h
        by_cases hd : shapedB I = true
        · rw [if_pos hd] at h
          by_cases he : smallB I = true
          · rw [if_pos he] at h
            by_cases hf : bareB I = true
            · unfold kindB at ha
              rw [decide_eq_true_iff] at ha
              rw [lean1_iff, decide_eq_true_iff] at hb
              rw [few1_iff, decide_eq_true_iff] at hc
              exact ⟨ha.1, ha.2, hb, hc, hd, he, hf⟩
            · rw [if_neg hf] at h; omega
          · rw [if_neg he] at h; omega
        · rw [if_neg hd] at h; omega
      · rw [if_neg hc] at h; omega
    · rw [if_neg hb] at h; omega
  · rw [if_neg ha] at h; omega
theorem n_sum {I : IData} (h : checkR I = 0) (h2 : I.kind ≠ 2) : nR I = (I.items.length : Int) + I.cost.length + I.sets.length := by
  obtain ⟨k0, k3, ⟨l1, l2, l3⟩, _⟩ := chk_zero h
  unfold nR
  rw [if_pos h]
  split
  · omega
  · split
    · omega
    · omega
end Go.Proofs.YtklomjpnmmaogaaDoor
