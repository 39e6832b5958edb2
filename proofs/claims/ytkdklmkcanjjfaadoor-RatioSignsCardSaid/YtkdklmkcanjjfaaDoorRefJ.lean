/- The walks of the reference for layer 1, part J: Floor. -/
import Derived.Test.YtkdklmkcanjjfaaDoorRefI
import Derived.Test.YtkdklmkcanjjfaaDoorQuo
namespace Go.Proofs.YtkdklmkcanjjfaaDoor
open Go.RowKit
set_option linter.unusedVariables false
set_option linter.unusedSimpArgs false
set_option maxRecDepth 100000

theorem BFloor_zero (a : Int) (up : Bool) (w : World) :
    Calls Tryd.prog 53 #[.int .i64 a, .int .i64 0, .bool up] w fun e w' => e = .returned (.tuple #[.int .i64 0, .bool false]) ∧ Below w.heap.size w w' := by
  go_enter Tryd.func53, Tryd.ntmps53
  go_wp2
  go_ret2
  exact ⟨rfl, Below.refl _ _⟩

/-- How the rounds of a quotient stand: the digits above i are found. -/
structure FlIn (w : World) (ax ay az : Nat) (A1 : Option Addr) (m1 c1 : Nat) (A2 : Option Addr) (m2 c2 : Nat) (M N : Nat) (i : Int) (wr : World) : Prop where
  bx : Blk wr ax 59 #[.bool false, .slice A1 m1 c1]
  kx : BigV wr false A1 m1 c1 (M : Int)
  byy : Blk wr ay 59 #[.bool false, .slice A2 m2 c2]
  ky : BigV wr false A2 m2 c2 (N : Int)
  row : ∃ n A m c Z, Blk wr az 59 #[.bool n, .slice A m c] ∧ BigV wr n A m c ((Z : Nat) : Int) ∧ Z * N ≤ M ∧ M < (Z + 2 ^ (i + 1).toNat) * N
  be : Below w.heap.size w wr

def sg (ng : Bool) (Z : Nat) : Int := if ng = true then -(Z : Int) else Z
theorem BigV.signed {w : World} {n : Bool} {A : Option Addr} {m c : Nat} {Z : Nat} (h : BigV w n A m c (Z : Int)) (ng : Bool) : ∃ ds, BigD w ng A m c ds ∧ sval ng ds = sg ng Z := by
  obtain ⟨ds, h1, _, _, h4⟩ := h.out
  refine ⟨ds, ⟨h1.len, h1.cap, h1.capm, h1.digs, h1.rd⟩, ?_⟩
  unfold sval sg
  rw [h4]; simp
theorem bit_wrap : ∀ r : Fin 16, IntKind.u64.wrap (2 ^ r.val) = ((2 ^ r.val : Nat) : Int) := by decide
theorem bit_small : ∀ r : Fin 16, 2 ^ r.val < 65536 := by decide
theorem bit_row (q r : Nat) (hr : r < 16) : ([Value.int .u64 0, Value.int .u64 0, Value.int .u64 0, Value.int .u64 0].set q (.int .u64 (IntKind.u64.wrap (2 ^ r)))) = dvs (([0, 0, 0, 0] : List Nat).set q (2 ^ r)) := by
  rw [show IntKind.u64.wrap (2 ^ r) = ((2 ^ r : Nat) : Int) from bit_wrap ⟨r, hr⟩]
  simp [dvs, List.map_set]
theorem bit_digs (q r : Nat) (hr : r < 16) : Digs (([0, 0, 0, 0] : List Nat).set q (2 ^ r)) :=
  digs_set (fun d hd => by simp at hd; omega) q _ (bit_small ⟨r, hr⟩)
theorem bit_val (q r : Nat) (hq : q < 4) : dval (([0, 0, 0, 0] : List Nat).set q (2 ^ r)) = 2 ^ (16 * q + r) := by
  have h := dval_set ([0, 0, 0, 0] : List Nat) q (2 ^ r) (by simpa using hq)
  have h0 : ([0, 0, 0, 0] : List Nat).getD q 0 = 0 := by
    match q, hq with
    | 0, _ => rfl
    | 1, _ => rfl
    | 2, _ => rfl
    | 3, _ => rfl
  rw [h0, show dval ([0, 0, 0, 0] : List Nat) = 0 from rfl] at h
  rw [Nat.pow_add, Nat.pow_mul]
  simpa using h
theorem bit_big (w : World) (q r : Nat) (hr : r < 16) : BigD (w.alloc (Obj.cells ([Value.int .u64 0, Value.int .u64 0, Value.int .u64 0, Value.int .u64 0].set q (.int .u64 (IntKind.u64.wrap (2 ^ r)))).toArray 82)) false (some ⟨w.heap.size, 0, none⟩) 4 4 (([0, 0, 0, 0] : List Nat).set q (2 ^ r)) := by
  refine ⟨by simp, by omega, by omega, bit_digs q r hr, ⟨.inr ⟨w.heap.size, 0, _, (0, 0), rfl, heap_alloc_new w _, fun j u hu => ?_⟩⟩⟩
  rw [bit_row q r hr]
  simpa using hu
theorem quo_of (a b : Int) (up ng ex : Bool) (Z : Nat) (hZ : a.natAbs / b.natAbs = Z) (hm : Z * b.natAbs + a.natAbs % b.natAbs = a.natAbs) (hex : ex = decide (Z * b.natAbs = a.natAbs)) (hng : ng = (decide (a < 0) != decide (b < 0))) :
    quoR a b up = if (!ex && (ng != up)) = true then sg ng (Z + 1) else sg ng Z := by
  unfold quoR quoL quoT sg
  rw [hZ, ← hng]
  have h1 : decide (a.natAbs % b.natAbs ≠ 0) = !ex := by
    rw [hex]
    by_cases h : a.natAbs % b.natAbs = 0
    · rw [decide_eq_false (by omega), decide_eq_true (by omega)]; rfl
    · rw [decide_eq_true h, decide_eq_false (by omega)]; rfl
  rw [h1]
  cases ex <;> cases ng <;> cases up <;> simp <;> omega
theorem fl_up {Z P N M : Nat} (h : (Z + P) * N ≤ M) (h2 : M < (Z + 2 * P) * N) : (Z + P) * N ≤ M ∧ M < (Z + P + P) * N := ⟨h, by rw [Nat.add_assoc, ← Nat.two_mul]; exact h2⟩

set_option maxHeartbeats 6400000 in
theorem BFloor_any (a b : Int) (up : Bool) (w : World) (ia : InI a) (ib : InI b) (hb0 : b ≠ 0) :
    Calls Tryd.prog 53 #[.int .i64 a, .int .i64 b, .bool up] w fun e w' => e = .returned (.tuple #[.int .i64 (fitN (quoR a b up)), .bool (fitB (quoR a b up))]) ∧ Below w.heap.size w w' := by
  have hbf : (b == 0) = false := by simpa using hb0
  go_enter Tryd.func53, Tryd.ntmps53
  go_wp2_with fail
  refine (Of_any _ _ ia).mono ?_; rintro e v1 ⟨n1, A1, m1, c1, rfl, k1, hb1⟩
  have st1 := bl_step (Below.refl _ _) hb1
  have bl1 := st1
  go_wp2_with fail
  refine (Of_any _ _ ib).mono ?_; rintro e v2 ⟨n2, A2, m2, c2, rfl, k2, hb2⟩
  have st2 := bl_step (bl_alloc (Below.refl _ _) _) hb2
  have bl2 := bl_step bl1 st2
  have Bx_2 : Blk v2 (v1.heap.size) 59 #[.bool n1, .slice A1 m1 c1] := (Blk.new _ _ _).below hb2
  have x_2_z : v1.heap.size < v2.heap.size := Bx_2.lt
  have x_2_c0 : v2.cell? ⟨v1.heap.size, 0, none⟩ = some (.bool n1) := (Bx_2.cell 0).trans rfl
  have x_2_f0 := Bx_2.frozen 0
  have x_2_c1 : v2.cell? ⟨v1.heap.size, 1, none⟩ = some (.slice A1 m1 c1) := (Bx_2.cell 1).trans rfl
  have x_2_f1 := Bx_2.frozen 1
  have x_2 := k1.below st2
  have hN : 0 < b.natAbs := by omega
  have sgA : n1 = decide (a < 0) := by obtain ⟨_, _, _, h, _⟩ := k1.out; exact h
  have sgB : n2 = decide (b < 0) := by obtain ⟨_, _, _, h, _⟩ := k2.out; exact h
  have SA := Lib.hid sgA
  have SB := Lib.hid sgB
  clear sgA sgB
  have hz1 := bl1.size
  have hz2 := bl2.size
  go_wp2_with fail
  go_loopw [12] (fun vi wr => ∃ i : Int, vi = .int .i64 i ∧ -1 ≤ i ∧ i ≤ 63 ∧ FlIn w v1.heap.size v2.heap.size (v2.heap.size + 1) A1 m1 c1 A2 m2 c2 a.natAbs b.natAbs i wr) (fun i _ => (intOf i + 1).toNat)
  case atStart =>
    refine ⟨63, rfl, by omega, by omega, ⟨(((Bx_2.put 0 _ rfl).alloc _).alloc _), ?_, (Blk.new' (by simp) _ _).alloc _, ?_, ?_, ?_⟩⟩
    · exact ((x_2.abs_.set_ (p := ⟨v1.heap.size, 0, none⟩) Bx_2 (by decide) (.bool false)).below (bl_alloc (Below.refl _ _) _)).below (bl_alloc (Below.refl _ _) _)
    · exact ((k2.abs_.set_ (p := ⟨v1.heap.size, 0, none⟩) Bx_2 (by decide) (.bool false)).below (bl_alloc (Below.refl _ _) _)).below (bl_alloc (Below.refl _ _) _)
    · refine ⟨false, none, 0, 0, 0, Blk.new' (by simp) _ _, BigV.zero _, by omega, ?_⟩
      have h1 := ia.1
      have h2 := ia.2
      show a.natAbs < (0 + 2 ^ 64) * b.natAbs
      omega
    · exact bl_alloc (bl_alloc (bl_set bl2 (p := ⟨v1.heap.size, 0, none⟩) bl1.size _) _) _
  case round =>
    obtain ⟨i, rfl, hi1, hi2, hbx, hkx, hby, hky, ⟨n, A, m, c, Z, hbz, hkz, hZ1, hZ2⟩, be⟩ := hrel
    clear x_2_z x_2_c0 x_2_f0 x_2_c1 x_2_f1
    by_cases h0 : 0 ≤ i
    · obtain ⟨q, r, hq, hr, hq0, hr0, hqr⟩ : ∃ q r : Nat, i.tdiv 16 = (q : Int) ∧ i.tmod 16 = (r : Int) ∧ q < 4 ∧ r < 16 ∧ i.toNat = 16 * q + r := by
        refine ⟨(i.tdiv 16).toNat, (i.tmod 16).toNat, ?_, ?_, ?_, ?_, ?_⟩ <;> simp only [Int.tdiv_eq_ediv_of_nonneg h0, Int.tmod_eq_emod_of_nonneg h0] <;> omega
      have HBD := Lib.hid (bit_big wr q r hr0)
      have hbv : sval false (([0, 0, 0, 0] : List Nat).set q (2 ^ r)) = ((2 ^ i.toNat : Nat) : Int) := by
        rw [show sval false (([0, 0, 0, 0] : List Nat).set q (2 ^ r)) = dval (([0, 0, 0, 0] : List Nat).set q (2 ^ r)) from if_neg (by simp), bit_val q r hq0, hqr]
      have hpz : 2 ^ (i + 1).toNat = 2 * 2 ^ i.toNat := by
        rw [show (i + 1).toNat = i.toNat + 1 by omega, Nat.pow_succ]; omega
      have hpb : 2 ^ i.toNat ≤ 2 ^ 63 := Nat.pow_le_pow_right (by omega) (by omega)
      rw [hpz] at hZ2
      clear hpz
      have HQ := Lib.hid hqr
      clear hqr
      generalize hPe : 2 ^ i.toNat = P at hbv hZ2 hpb
      have HP := Lib.hid hPe
      clear hPe
      have HBV := Lib.hid hbv
      clear hbv
      have hzle : Z ≤ a.natAbs := Nat.le_trans (Nat.le_mul_of_pos_right Z hN) hZ1
      have HS : Hid (Sm (Z : Int) ∧ Sm (P : Int) ∧ Sm ((Z : Int) + (P : Int)) ∧ Sm (b.natAbs : Int)) := Lib.hid ⟨sm_of (by have := ia.1; have := ia.2; omega) (by have := ia.1; have := ia.2; omega), sm_of (by omega) (by omega), sm_of (by have := ia.1; have := ia.2; omega) (by have := ia.1; have := ia.2; omega), sm_of (by have := ib.1; have := ib.2; omega) (by have := ib.1; have := ib.2; omega)⟩
      clear hzle hpb
      have x_r_z : v1.heap.size < wr.heap.size := hbx.lt
      have x_r_c0 : wr.cell? ⟨v1.heap.size, 0, none⟩ = some (.bool false) := (hbx.cell 0).trans rfl
      have x_r_f0 := hbx.frozen 0
      have x_r_c1 : wr.cell? ⟨v1.heap.size, 1, none⟩ = some (.slice A1 m1 c1) := (hbx.cell 1).trans rfl
      have x_r_f1 := hbx.frozen 1
      have y_r_z : v2.heap.size < wr.heap.size := hby.lt
      have y_r_c0 : wr.cell? ⟨v2.heap.size, 0, none⟩ = some (.bool false) := (hby.cell 0).trans rfl
      have y_r_f0 := hby.frozen 0
      have y_r_c1 : wr.cell? ⟨v2.heap.size, 1, none⟩ = some (.slice A2 m2 c2) := (hby.cell 1).trans rfl
      have y_r_f1 := hby.frozen 1
      have z_r_z : (v2.heap.size + 1) < wr.heap.size := hbz.lt
      have z_r_c0 : wr.cell? ⟨(v2.heap.size + 1), 0, none⟩ = some (.bool n) := (hbz.cell 0).trans rfl
      have z_r_f0 := hbz.frozen 0
      have z_r_c1 : wr.cell? ⟨(v2.heap.size + 1), 1, none⟩ = some (.slice A m c) := (hbz.cell 1).trans rfl
      have z_r_f1 := hbz.frozen 1
      go_wp2_with fail
      refine (trim_any _ _ _ _ _ _ HBD.out).mono ?_; rintro e r11 ⟨n11, A11, m11, c11, rfl, k11, hb11⟩
      have st11 := bl_step (bl_alloc (Below.refl _ _) _) hb11
      have bl11 := st11
      clear x_r_z x_r_c0 x_r_f0 x_r_c1 x_r_f1
      have Bx_11 := hbx.below st11
      clear y_r_z y_r_c0 y_r_f0 y_r_c1 y_r_f1
      have By_11 := hby.below st11
      clear z_r_z z_r_c0 z_r_f0 z_r_c1 z_r_f1
      have Bz_11 := hbz.below st11
      have x_11_z : v1.heap.size < r11.heap.size := Bx_11.lt
      have x_11_c0 : r11.cell? ⟨v1.heap.size, 0, none⟩ = some (.bool false) := (Bx_11.cell 0).trans rfl
      have x_11_f0 := Bx_11.frozen 0
      have x_11_c1 : r11.cell? ⟨v1.heap.size, 1, none⟩ = some (.slice A1 m1 c1) := (Bx_11.cell 1).trans rfl
      have x_11_f1 := Bx_11.frozen 1
      have y_11_z : v2.heap.size < r11.heap.size := By_11.lt
      have y_11_c0 : r11.cell? ⟨v2.heap.size, 0, none⟩ = some (.bool false) := (By_11.cell 0).trans rfl
      have y_11_f0 := By_11.frozen 0
      have y_11_c1 : r11.cell? ⟨v2.heap.size, 1, none⟩ = some (.slice A2 m2 c2) := (By_11.cell 1).trans rfl
      have y_11_f1 := By_11.frozen 1
      have z_11_z : (v2.heap.size + 1) < r11.heap.size := Bz_11.lt
      have z_11_c0 : r11.cell? ⟨(v2.heap.size + 1), 0, none⟩ = some (.bool n) := (Bz_11.cell 0).trans rfl
      have z_11_f0 := Bz_11.frozen 0
      have z_11_c1 : r11.cell? ⟨(v2.heap.size + 1), 1, none⟩ = some (.slice A m c) := (Bz_11.cell 1).trans rfl
      have z_11_f1 := Bz_11.frozen 1
      have kx_11 := hkx.below st11
      have ky_11 := hky.below st11
      have kz_11 := hkz.below st11
      rw [HBV.out] at k11
      go_wp2_with fail
      refine (BAdd_any _ _ _ _ _ _ _ _ _ _ _ (kz_11.below (bl_alloc (Below.refl _ _) _)) (k11.below (bl_alloc (Below.refl _ _) _)) HS.out.1 HS.out.2.1).mono ?_; rintro e r12 ⟨n12, A12, m12, c12, rfl, k12, hb12⟩
      have st12 := bl_step (bl_alloc (Below.refl _ _) _) hb12
      have bl12 := bl_step bl11 st12
      have Bb_12 : Blk r12 (r11.heap.size) 59 #[.bool n11, .slice A11 m11 c11] := (Blk.new _ _ _).below hb12
      clear x_11_z x_11_c0 x_11_f0 x_11_c1 x_11_f1
      have Bx_12 := Bx_11.below st12
      clear y_11_z y_11_c0 y_11_f0 y_11_c1 y_11_f1
      have By_12 := By_11.below st12
      clear z_11_z z_11_c0 z_11_f0 z_11_c1 z_11_f1
      have Bz_12 := Bz_11.below st12
      have x_12_z : v1.heap.size < r12.heap.size := Bx_12.lt
      have x_12_c0 : r12.cell? ⟨v1.heap.size, 0, none⟩ = some (.bool false) := (Bx_12.cell 0).trans rfl
      have x_12_f0 := Bx_12.frozen 0
      have x_12_c1 : r12.cell? ⟨v1.heap.size, 1, none⟩ = some (.slice A1 m1 c1) := (Bx_12.cell 1).trans rfl
      have x_12_f1 := Bx_12.frozen 1
      have y_12_z : v2.heap.size < r12.heap.size := By_12.lt
      have y_12_c0 : r12.cell? ⟨v2.heap.size, 0, none⟩ = some (.bool false) := (By_12.cell 0).trans rfl
      have y_12_f0 := By_12.frozen 0
      have y_12_c1 : r12.cell? ⟨v2.heap.size, 1, none⟩ = some (.slice A2 m2 c2) := (By_12.cell 1).trans rfl
      have y_12_f1 := By_12.frozen 1
      have z_12_z : (v2.heap.size + 1) < r12.heap.size := Bz_12.lt
      have z_12_c0 : r12.cell? ⟨(v2.heap.size + 1), 0, none⟩ = some (.bool n) := (Bz_12.cell 0).trans rfl
      have z_12_f0 := Bz_12.frozen 0
      have z_12_c1 : r12.cell? ⟨(v2.heap.size + 1), 1, none⟩ = some (.slice A m c) := (Bz_12.cell 1).trans rfl
      have z_12_f1 := Bz_12.frozen 1
      have b_12_z : r11.heap.size < r12.heap.size := Bb_12.lt
      have b_12_c0 : r12.cell? ⟨r11.heap.size, 0, none⟩ = some (.bool n11) := (Bb_12.cell 0).trans rfl
      have b_12_f0 := Bb_12.frozen 0
      have b_12_c1 : r12.cell? ⟨r11.heap.size, 1, none⟩ = some (.slice A11 m11 c11) := (Bb_12.cell 1).trans rfl
      have b_12_f1 := Bb_12.frozen 1
      have kx_12 := kx_11.below st12
      have ky_12 := ky_11.below st12
      have kz_12 := kz_11.below st12
      have kb_12 := k11.below st12
      go_wp2_with fail
      refine (BMul_any _ _ _ _ _ _ _ _ _ _ _ (k12.below (bl_alloc (Below.refl _ _) _)) (ky_12.below (bl_alloc (Below.refl _ _) _)) HS.out.2.2.1 HS.out.2.2.2).mono ?_; rintro e r13 ⟨n13, A13, m13, c13, rfl, k13, hb13⟩
      have st13 := bl_step (bl_alloc (Below.refl _ _) _) hb13
      have bl13 := bl_step bl12 st13
      have Bt_13 : Blk r13 (r12.heap.size) 59 #[.bool n12, .slice A12 m12 c12] := (Blk.new _ _ _).below hb13
      clear x_12_z x_12_c0 x_12_f0 x_12_c1 x_12_f1
      have Bx_13 := Bx_12.below st13
      clear y_12_z y_12_c0 y_12_f0 y_12_c1 y_12_f1
      have By_13 := By_12.below st13
      clear z_12_z z_12_c0 z_12_f0 z_12_c1 z_12_f1
      have Bz_13 := Bz_12.below st13
      clear b_12_z b_12_c0 b_12_f0 b_12_c1 b_12_f1
      have Bb_13 := Bb_12.below st13
      have x_13_z : v1.heap.size < r13.heap.size := Bx_13.lt
      have x_13_c0 : r13.cell? ⟨v1.heap.size, 0, none⟩ = some (.bool false) := (Bx_13.cell 0).trans rfl
      have x_13_f0 := Bx_13.frozen 0
      have x_13_c1 : r13.cell? ⟨v1.heap.size, 1, none⟩ = some (.slice A1 m1 c1) := (Bx_13.cell 1).trans rfl
      have x_13_f1 := Bx_13.frozen 1
      have y_13_z : v2.heap.size < r13.heap.size := By_13.lt
      have y_13_c0 : r13.cell? ⟨v2.heap.size, 0, none⟩ = some (.bool false) := (By_13.cell 0).trans rfl
      have y_13_f0 := By_13.frozen 0
      have y_13_c1 : r13.cell? ⟨v2.heap.size, 1, none⟩ = some (.slice A2 m2 c2) := (By_13.cell 1).trans rfl
      have y_13_f1 := By_13.frozen 1
      have z_13_z : (v2.heap.size + 1) < r13.heap.size := Bz_13.lt
      have z_13_c0 : r13.cell? ⟨(v2.heap.size + 1), 0, none⟩ = some (.bool n) := (Bz_13.cell 0).trans rfl
      have z_13_f0 := Bz_13.frozen 0
      have z_13_c1 : r13.cell? ⟨(v2.heap.size + 1), 1, none⟩ = some (.slice A m c) := (Bz_13.cell 1).trans rfl
      have z_13_f1 := Bz_13.frozen 1
      have b_13_z : r11.heap.size < r13.heap.size := Bb_13.lt
      have b_13_c0 : r13.cell? ⟨r11.heap.size, 0, none⟩ = some (.bool n11) := (Bb_13.cell 0).trans rfl
      have b_13_f0 := Bb_13.frozen 0
      have b_13_c1 : r13.cell? ⟨r11.heap.size, 1, none⟩ = some (.slice A11 m11 c11) := (Bb_13.cell 1).trans rfl
      have b_13_f1 := Bb_13.frozen 1
      have t_13_z : r12.heap.size < r13.heap.size := Bt_13.lt
      have t_13_c0 : r13.cell? ⟨r12.heap.size, 0, none⟩ = some (.bool n12) := (Bt_13.cell 0).trans rfl
      have t_13_f0 := Bt_13.frozen 0
      have t_13_c1 : r13.cell? ⟨r12.heap.size, 1, none⟩ = some (.slice A12 m12 c12) := (Bt_13.cell 1).trans rfl
      have t_13_f1 := Bt_13.frozen 1
      have kx_13 := kx_12.below st13
      have ky_13 := ky_12.below st13
      have kz_13 := kz_12.below st13
      have kb_13 := kb_12.below st13
      have kt_13 := k12.below st13
      go_wp2_with fail
      refine (Cmp_any _ _ _ _ _ _ _ _ _ _ _ (k13.below (bl_alloc (Below.refl _ _) _)) (kx_13.below (bl_alloc (Below.refl _ _) _))).mono ?_; rintro e r14 ⟨rfl, hb14⟩
      have st14 := bl_step (bl_alloc (Below.refl _ _) _) hb14
      have bl14 := bl_step bl13 st14
      have Bm_14 : Blk r14 (r13.heap.size) 59 #[.bool n13, .slice A13 m13 c13] := (Blk.new _ _ _).below hb14
      clear x_13_z x_13_c0 x_13_f0 x_13_c1 x_13_f1
      have Bx_14 := Bx_13.below st14
      clear y_13_z y_13_c0 y_13_f0 y_13_c1 y_13_f1
      have By_14 := By_13.below st14
      clear z_13_z z_13_c0 z_13_f0 z_13_c1 z_13_f1
      have Bz_14 := Bz_13.below st14
      clear b_13_z b_13_c0 b_13_f0 b_13_c1 b_13_f1
      have Bb_14 := Bb_13.below st14
      clear t_13_z t_13_c0 t_13_f0 t_13_c1 t_13_f1
      have Bt_14 := Bt_13.below st14
      have x_14_z : v1.heap.size < r14.heap.size := Bx_14.lt
      have x_14_c0 : r14.cell? ⟨v1.heap.size, 0, none⟩ = some (.bool false) := (Bx_14.cell 0).trans rfl
      have x_14_f0 := Bx_14.frozen 0
      have x_14_c1 : r14.cell? ⟨v1.heap.size, 1, none⟩ = some (.slice A1 m1 c1) := (Bx_14.cell 1).trans rfl
      have x_14_f1 := Bx_14.frozen 1
      have y_14_z : v2.heap.size < r14.heap.size := By_14.lt
      have y_14_c0 : r14.cell? ⟨v2.heap.size, 0, none⟩ = some (.bool false) := (By_14.cell 0).trans rfl
      have y_14_f0 := By_14.frozen 0
      have y_14_c1 : r14.cell? ⟨v2.heap.size, 1, none⟩ = some (.slice A2 m2 c2) := (By_14.cell 1).trans rfl
      have y_14_f1 := By_14.frozen 1
      have z_14_z : (v2.heap.size + 1) < r14.heap.size := Bz_14.lt
      have z_14_c0 : r14.cell? ⟨(v2.heap.size + 1), 0, none⟩ = some (.bool n) := (Bz_14.cell 0).trans rfl
      have z_14_f0 := Bz_14.frozen 0
      have z_14_c1 : r14.cell? ⟨(v2.heap.size + 1), 1, none⟩ = some (.slice A m c) := (Bz_14.cell 1).trans rfl
      have z_14_f1 := Bz_14.frozen 1
      have b_14_z : r11.heap.size < r14.heap.size := Bb_14.lt
      have b_14_c0 : r14.cell? ⟨r11.heap.size, 0, none⟩ = some (.bool n11) := (Bb_14.cell 0).trans rfl
      have b_14_f0 := Bb_14.frozen 0
      have b_14_c1 : r14.cell? ⟨r11.heap.size, 1, none⟩ = some (.slice A11 m11 c11) := (Bb_14.cell 1).trans rfl
      have b_14_f1 := Bb_14.frozen 1
      have t_14_z : r12.heap.size < r14.heap.size := Bt_14.lt
      have t_14_c0 : r14.cell? ⟨r12.heap.size, 0, none⟩ = some (.bool n12) := (Bt_14.cell 0).trans rfl
      have t_14_f0 := Bt_14.frozen 0
      have t_14_c1 : r14.cell? ⟨r12.heap.size, 1, none⟩ = some (.slice A12 m12 c12) := (Bt_14.cell 1).trans rfl
      have t_14_f1 := Bt_14.frozen 1
      have m_14_z : r13.heap.size < r14.heap.size := Bm_14.lt
      have m_14_c0 : r14.cell? ⟨r13.heap.size, 0, none⟩ = some (.bool n13) := (Bm_14.cell 0).trans rfl
      have m_14_f0 := Bm_14.frozen 0
      have m_14_c1 : r14.cell? ⟨r13.heap.size, 1, none⟩ = some (.slice A13 m13 c13) := (Bm_14.cell 1).trans rfl
      have m_14_f1 := Bm_14.frozen 1
      have kx_14 := kx_13.below st14
      have ky_14 := ky_13.below st14
      have kz_14 := kz_13.below st14
      have kb_14 := kb_13.below st14
      have kt_14 := kt_13.below st14
      have km_14 := k13.below st14
      have HBE := Lib.hid (bl_step be bl14)
      have hkt := kt_14
      have HH := Lib.hid (And.intro hZ1 hZ2)
      clear hZ1 hZ2
      have sx := Bx_14
      by_cases hle : (Z + P) * b.natAbs ≤ a.natAbs
      · have hc : cmp3 (((Z : Int) + (P : Int)) * (b.natAbs : Int)) (a.natAbs : Int) = -1 ∨ cmp3 (((Z : Int) + (P : Int)) * (b.natAbs : Int)) (a.natAbs : Int) = 0 := by
          have hle' : ((Z : Int) + (P : Int)) * (b.natAbs : Int) ≤ (a.natAbs : Int) := by exact_mod_cast hle
          unfold cmp3
          split
          · exact .inl rfl
          · rw [if_pos (by omega)]; exact .inr rfl
        have hx : cmp3 (((Z : Int) + (P : Int)) * (b.natAbs : Int)) (a.natAbs : Int) ≤ 0 := by rcases hc with h | h <;> rw [h] <;> decide
        clear hc
        generalize cmp3 (((Z : Int) + (P : Int)) * (b.natAbs : Int)) (a.natAbs : Int) = x at hx ⊢
        have HLE := Lib.hid hle
        clear hle
        go_wp2_with fail
        have d0 : v1.heap.size < v2.heap.size := Bx_2.lt
        refine ⟨⟨i - 1, rfl, by omega, by omega, ⟨(Bx_14.far (p := ⟨v2.heap.size + 1, 0, none⟩) (by simp; omega) _).far (p := ⟨v2.heap.size + 1, 1, none⟩) (by simp; omega) _, ?_, (By_14.far (p := ⟨v2.heap.size + 1, 0, none⟩) (by simp) _).far (p := ⟨v2.heap.size + 1, 1, none⟩) (by simp) _, ?_, ⟨n12, A12, m12, c12, Z + P, (Bz_14.put 0 _ rfl).put 1 _ rfl, ?_, HLE.out, ?_⟩, ?_⟩⟩, by simp only [intOf]; omega⟩
        · exact (kx_14.set_ (p := ⟨v2.heap.size + 1, 0, none⟩) Bz_14 (by decide) _).set_ (p := ⟨v2.heap.size + 1, 1, none⟩) (Bz_14.put 0 _ rfl) (by decide) _
        · exact (ky_14.set_ (p := ⟨v2.heap.size + 1, 0, none⟩) Bz_14 (by decide) _).set_ (p := ⟨v2.heap.size + 1, 1, none⟩) (Bz_14.put 0 _ rfl) (by decide) _
        · exact (hkt.set_ (p := ⟨v2.heap.size + 1, 0, none⟩) Bz_14 (by decide) _).set_ (p := ⟨v2.heap.size + 1, 1, none⟩) (Bz_14.put 0 _ rfl) (by decide) _
        · have := HH.out.2
          rw [show i - 1 + 1 = i by omega, HP.out, Nat.add_assoc, ← Nat.two_mul]; exact this
        · exact bl_set (bl_set HBE.out (p := ⟨v2.heap.size + 1, 0, none⟩) (by simp; omega) _) (p := ⟨v2.heap.size + 1, 1, none⟩) (by simp; omega) _
      · have hx : cmp3 (((Z : Int) + (P : Int)) * (b.natAbs : Int)) (a.natAbs : Int) = 1 := by
          have hle' : (a.natAbs : Int) < ((Z : Int) + (P : Int)) * (b.natAbs : Int) := by exact_mod_cast (by omega : a.natAbs < (Z + P) * b.natAbs)
          unfold cmp3
          rw [if_neg (by omega), if_neg (by omega)]
        rw [hx]
        have HLE := Lib.hid hle
        clear hle hx
        go_wp2_with fail
        refine ⟨⟨i - 1, rfl, by omega, by omega, ⟨Bx_14, kx_14, By_14, ky_14, ⟨n, A, m, c, Z, Bz_14, kz_14, HH.out.1, ?_⟩, HBE.out⟩⟩, by simp only [intOf]; omega⟩
        rw [show i - 1 + 1 = i by omega, HP.out]
        have := HLE.out
        omega
    · have hi : i = -1 := by omega
      subst hi
      have hzle : Z ≤ a.natAbs := Nat.le_trans (Nat.le_mul_of_pos_right Z hN) hZ1
      have HS : Hid (Sm (Z : Int) ∧ Sm (b.natAbs : Int) ∧ Sm (1 : Int)) := Lib.hid ⟨sm_of (by have := ia.1; have := ia.2; omega) (by have := ia.1; have := ia.2; omega), sm_of (by have := ib.1; have := ib.2; omega) (by have := ib.1; have := ib.2; omega), sm_of (by omega) (by omega)⟩
      have hdiv : a.natAbs / b.natAbs = Z := Nat.div_eq_of_lt_le hZ1 hZ2
      have hmod := Nat.div_add_mod a.natAbs b.natAbs
      rw [hdiv, Nat.mul_comm] at hmod
      have HDM := Lib.hid (And.intro hdiv hmod)
      obtain ⟨ex, hex⟩ : ∃ ex, ex = decide (Z * b.natAbs = a.natAbs) := ⟨_, rfl⟩
      have HEX := Lib.hid hex
      have HCM : Hid (cmp3 ((Z : Int) * (b.natAbs : Int)) (a.natAbs : Int) = if ex = true then 0 else -1) := by
        have h1 : (Z : Int) * (b.natAbs : Int) ≤ (a.natAbs : Int) := by exact_mod_cast hZ1
        by_cases he : Z * b.natAbs = a.natAbs
        · have h2 : (Z : Int) * (b.natAbs : Int) = (a.natAbs : Int) := by exact_mod_cast he
          rw [if_pos (by rw [hex]; exact decide_eq_true he)]
          unfold cmp3
          rw [if_neg (by omega), if_pos h2]; rfl
        · have h2 : (Z : Int) * (b.natAbs : Int) ≠ (a.natAbs : Int) := by exact_mod_cast he
          rw [if_neg (by rw [hex]; simpa using he)]
          unfold cmp3
          rw [if_pos (by omega)]; rfl
      clear hzle hdiv hmod hex hZ1 hZ2
      obtain ⟨ng, hng⟩ : ∃ ng, (!(n1 == n2)) = ng := ⟨_, rfl⟩
      rw [hng]
      have HNG := Lib.hid hng
      clear hng
      have x_r_z : v1.heap.size < wr.heap.size := hbx.lt
      have x_r_c0 : wr.cell? ⟨v1.heap.size, 0, none⟩ = some (.bool false) := (hbx.cell 0).trans rfl
      have x_r_f0 := hbx.frozen 0
      have x_r_c1 : wr.cell? ⟨v1.heap.size, 1, none⟩ = some (.slice A1 m1 c1) := (hbx.cell 1).trans rfl
      have x_r_f1 := hbx.frozen 1
      have y_r_z : v2.heap.size < wr.heap.size := hby.lt
      have y_r_c0 : wr.cell? ⟨v2.heap.size, 0, none⟩ = some (.bool false) := (hby.cell 0).trans rfl
      have y_r_f0 := hby.frozen 0
      have y_r_c1 : wr.cell? ⟨v2.heap.size, 1, none⟩ = some (.slice A2 m2 c2) := (hby.cell 1).trans rfl
      have y_r_f1 := hby.frozen 1
      have z_r_z : (v2.heap.size + 1) < wr.heap.size := hbz.lt
      have z_r_c0 : wr.cell? ⟨(v2.heap.size + 1), 0, none⟩ = some (.bool n) := (hbz.cell 0).trans rfl
      have z_r_f0 := hbz.frozen 0
      have z_r_c1 : wr.cell? ⟨(v2.heap.size + 1), 1, none⟩ = some (.slice A m c) := (hbz.cell 1).trans rfl
      have z_r_f1 := hbz.frozen 1
      go_wp2_with fail
      refine (BMul_any _ _ _ _ _ _ _ _ _ _ _ hkz hky HS.out.1 HS.out.2.1).mono ?_; rintro e s11 ⟨n11, A11, m11, c11, rfl, k11, hb11⟩
      have st11 := bl_step (Below.refl _ _) hb11
      have bl11 := st11
      clear x_r_z x_r_c0 x_r_f0 x_r_c1 x_r_f1
      have Bx_11 := hbx.below st11
      clear y_r_z y_r_c0 y_r_f0 y_r_c1 y_r_f1
      have By_11 := hby.below st11
      clear z_r_z z_r_c0 z_r_f0 z_r_c1 z_r_f1
      have Bz_11 := hbz.below st11
      have x_11_z : v1.heap.size < s11.heap.size := Bx_11.lt
      have x_11_c0 : s11.cell? ⟨v1.heap.size, 0, none⟩ = some (.bool false) := (Bx_11.cell 0).trans rfl
      have x_11_f0 := Bx_11.frozen 0
      have x_11_c1 : s11.cell? ⟨v1.heap.size, 1, none⟩ = some (.slice A1 m1 c1) := (Bx_11.cell 1).trans rfl
      have x_11_f1 := Bx_11.frozen 1
      have y_11_z : v2.heap.size < s11.heap.size := By_11.lt
      have y_11_c0 : s11.cell? ⟨v2.heap.size, 0, none⟩ = some (.bool false) := (By_11.cell 0).trans rfl
      have y_11_f0 := By_11.frozen 0
      have y_11_c1 : s11.cell? ⟨v2.heap.size, 1, none⟩ = some (.slice A2 m2 c2) := (By_11.cell 1).trans rfl
      have y_11_f1 := By_11.frozen 1
      have z_11_z : (v2.heap.size + 1) < s11.heap.size := Bz_11.lt
      have z_11_c0 : s11.cell? ⟨(v2.heap.size + 1), 0, none⟩ = some (.bool n) := (Bz_11.cell 0).trans rfl
      have z_11_f0 := Bz_11.frozen 0
      have z_11_c1 : s11.cell? ⟨(v2.heap.size + 1), 1, none⟩ = some (.slice A m c) := (Bz_11.cell 1).trans rfl
      have z_11_f1 := Bz_11.frozen 1
      have kx_11 := hkx.below st11
      have ky_11 := hky.below st11
      have kz_11 := hkz.below st11
      go_wp2_with fail
      refine (Cmp_any _ _ _ _ _ _ _ _ _ _ _ (k11.below (bl_alloc (Below.refl _ _) _)) (kx_11.below (bl_alloc (Below.refl _ _) _))).mono ?_; rintro e s12 ⟨rfl, hb12⟩
      have st12 := bl_step (bl_alloc (Below.refl _ _) _) hb12
      have bl12 := bl_step bl11 st12
      have Bm_12 : Blk s12 (s11.heap.size) 59 #[.bool n11, .slice A11 m11 c11] := (Blk.new _ _ _).below hb12
      clear x_11_z x_11_c0 x_11_f0 x_11_c1 x_11_f1
      have Bx_12 := Bx_11.below st12
      clear y_11_z y_11_c0 y_11_f0 y_11_c1 y_11_f1
      have By_12 := By_11.below st12
      clear z_11_z z_11_c0 z_11_f0 z_11_c1 z_11_f1
      have Bz_12 := Bz_11.below st12
      have x_12_z : v1.heap.size < s12.heap.size := Bx_12.lt
      have x_12_c0 : s12.cell? ⟨v1.heap.size, 0, none⟩ = some (.bool false) := (Bx_12.cell 0).trans rfl
      have x_12_f0 := Bx_12.frozen 0
      have x_12_c1 : s12.cell? ⟨v1.heap.size, 1, none⟩ = some (.slice A1 m1 c1) := (Bx_12.cell 1).trans rfl
      have x_12_f1 := Bx_12.frozen 1
      have y_12_z : v2.heap.size < s12.heap.size := By_12.lt
      have y_12_c0 : s12.cell? ⟨v2.heap.size, 0, none⟩ = some (.bool false) := (By_12.cell 0).trans rfl
      have y_12_f0 := By_12.frozen 0
      have y_12_c1 : s12.cell? ⟨v2.heap.size, 1, none⟩ = some (.slice A2 m2 c2) := (By_12.cell 1).trans rfl
      have y_12_f1 := By_12.frozen 1
      have z_12_z : (v2.heap.size + 1) < s12.heap.size := Bz_12.lt
      have z_12_c0 : s12.cell? ⟨(v2.heap.size + 1), 0, none⟩ = some (.bool n) := (Bz_12.cell 0).trans rfl
      have z_12_f0 := Bz_12.frozen 0
      have z_12_c1 : s12.cell? ⟨(v2.heap.size + 1), 1, none⟩ = some (.slice A m c) := (Bz_12.cell 1).trans rfl
      have z_12_f1 := Bz_12.frozen 1
      have m_12_z : s11.heap.size < s12.heap.size := Bm_12.lt
      have m_12_c0 : s12.cell? ⟨s11.heap.size, 0, none⟩ = some (.bool n11) := (Bm_12.cell 0).trans rfl
      have m_12_f0 := Bm_12.frozen 0
      have m_12_c1 : s12.cell? ⟨s11.heap.size, 1, none⟩ = some (.slice A11 m11 c11) := (Bm_12.cell 1).trans rfl
      have m_12_f1 := Bm_12.frozen 1
      have kx_12 := kx_11.below st12
      have ky_12 := ky_11.below st12
      have kz_12 := kz_11.below st12
      have km_12 := k11.below st12
      have hc : cmp3 ((Z : Int) * (b.natAbs : Int)) (a.natAbs : Int) = if ex = true then 0 else -1 := HCM.out
      rw [hc]
      clear hc
      cases ex <;> cases ng <;> cases up
      · simp only [if_true, Bool.false_eq_true, if_false]
        go_wp2_with fail
        refine (Of_any _ _ (⟨by omega, by omega⟩)).mono ?_; rintro e s13 ⟨n13, A13, m13, c13, rfl, k13, hb13⟩
        have st13 := bl_step (Below.refl _ _) hb13
        have bl13 := bl_step bl12 st13
        clear x_12_z x_12_c0 x_12_f0 x_12_c1 x_12_f1
        have Bx_13 := Bx_12.below st13
        clear y_12_z y_12_c0 y_12_f0 y_12_c1 y_12_f1
        have By_13 := By_12.below st13
        clear z_12_z z_12_c0 z_12_f0 z_12_c1 z_12_f1
        have Bz_13 := Bz_12.below st13
        clear m_12_z m_12_c0 m_12_f0 m_12_c1 m_12_f1
        have Bm_13 := Bm_12.below st13
        have x_13_z : v1.heap.size < s13.heap.size := Bx_13.lt
        have x_13_c0 : s13.cell? ⟨v1.heap.size, 0, none⟩ = some (.bool false) := (Bx_13.cell 0).trans rfl
        have x_13_f0 := Bx_13.frozen 0
        have x_13_c1 : s13.cell? ⟨v1.heap.size, 1, none⟩ = some (.slice A1 m1 c1) := (Bx_13.cell 1).trans rfl
        have x_13_f1 := Bx_13.frozen 1
        have y_13_z : v2.heap.size < s13.heap.size := By_13.lt
        have y_13_c0 : s13.cell? ⟨v2.heap.size, 0, none⟩ = some (.bool false) := (By_13.cell 0).trans rfl
        have y_13_f0 := By_13.frozen 0
        have y_13_c1 : s13.cell? ⟨v2.heap.size, 1, none⟩ = some (.slice A2 m2 c2) := (By_13.cell 1).trans rfl
        have y_13_f1 := By_13.frozen 1
        have z_13_z : (v2.heap.size + 1) < s13.heap.size := Bz_13.lt
        have z_13_c0 : s13.cell? ⟨(v2.heap.size + 1), 0, none⟩ = some (.bool n) := (Bz_13.cell 0).trans rfl
        have z_13_f0 := Bz_13.frozen 0
        have z_13_c1 : s13.cell? ⟨(v2.heap.size + 1), 1, none⟩ = some (.slice A m c) := (Bz_13.cell 1).trans rfl
        have z_13_f1 := Bz_13.frozen 1
        have m_13_z : s11.heap.size < s13.heap.size := Bm_13.lt
        have m_13_c0 : s13.cell? ⟨s11.heap.size, 0, none⟩ = some (.bool n11) := (Bm_13.cell 0).trans rfl
        have m_13_f0 := Bm_13.frozen 0
        have m_13_c1 : s13.cell? ⟨s11.heap.size, 1, none⟩ = some (.slice A11 m11 c11) := (Bm_13.cell 1).trans rfl
        have m_13_f1 := Bm_13.frozen 1
        have kx_13 := kx_12.below st13
        have ky_13 := ky_12.below st13
        have kz_13 := kz_12.below st13
        have km_13 := km_12.below st13
        go_wp2_with fail
        have K := (kz_13.set_ (p := ⟨v2.heap.size + 1, 0, none⟩) Bz_13 (by decide) (.bool false)).below (bl_alloc (Below.refl _ _) (Obj.cells #[.bool n13, .slice A13 m13 c13] 59))
        have BzW := (Bz_13.put 0 (.bool false) rfl).alloc (Obj.cells #[.bool n13, .slice A13 m13 c13] 59)
        have blW := bl_alloc (bl_set (bl_step be bl13) (p := ⟨v2.heap.size + 1, 0, none⟩) (by simp; omega) (.bool false)) (Obj.cells #[.bool n13, .slice A13 m13 c13] 59)
        clear x_13_z x_13_c0 x_13_f0 x_13_c1 x_13_f1
        clear y_13_z y_13_c0 y_13_f0 y_13_c1 y_13_f1
        clear z_13_z z_13_c0 z_13_f0 z_13_c1 z_13_f1
        clear m_13_z m_13_c0 m_13_f0 m_13_c1 m_13_f1
        obtain ⟨ds, hD, hv⟩ := K.signed (Z := Z) false
        refine (trim_any _ _ _ _ ds _ hD).mono ?_; rintro e sT ⟨nT, AT, mT, cT, rfl, kT, hbT⟩
        rw [hv] at kT
        clear hv
        have BzT := BzW.below hbT
        have zT_z : (v2.heap.size + 1) < sT.heap.size := BzT.lt
        have zT_c0 : sT.cell? ⟨(v2.heap.size + 1), 0, none⟩ = some (.bool false) := (BzT.cell 0).trans rfl
        have zT_f0 := BzT.frozen 0
        have zT_c1 : sT.cell? ⟨(v2.heap.size + 1), 1, none⟩ = some (.slice A m c) := (BzT.cell 1).trans rfl
        have zT_f1 := BzT.frozen 1
        have KK := (kT.set_ (p := ⟨v2.heap.size + 1, 0, none⟩) BzT (by decide) (.bool nT)).set_ (p := ⟨v2.heap.size + 1, 1, none⟩) (BzT.put 0 _ rfl) (by decide) (.slice AT mT cT)
        go_wp2_with fail
        refine (Short_any _ _ _ _ _ _ KK).mono ?_; rintro e sS ⟨rfl, hbS⟩
        have blS := bl_step (bl_set (bl_set (bl_step blW hbT) (p := ⟨v2.heap.size + 1, 0, none⟩) (by simp; omega) (.bool nT)) (p := ⟨v2.heap.size + 1, 1, none⟩) (by simp; omega) (.slice AT mT cT)) hbS
        have hq := quo_of a b false false false Z HDM.out.1 HDM.out.2 HEX.out (by rw [← SA.out, ← SB.out]; exact HNG.out.symm)
        rw [if_neg (by decide)] at hq
        have HQ := Lib.hid hq
        clear hq
        go_wp2
        go_ret2
        refine ⟨?_, blS⟩; rw [HQ.out]; rfl
      · simp only [if_true, Bool.false_eq_true, if_false]
        go_wp2_with fail
        refine (Of_any _ _ (⟨by omega, by omega⟩)).mono ?_; rintro e s13 ⟨n13, A13, m13, c13, rfl, k13, hb13⟩
        have st13 := bl_step (Below.refl _ _) hb13
        have bl13 := bl_step bl12 st13
        clear x_12_z x_12_c0 x_12_f0 x_12_c1 x_12_f1
        have Bx_13 := Bx_12.below st13
        clear y_12_z y_12_c0 y_12_f0 y_12_c1 y_12_f1
        have By_13 := By_12.below st13
        clear z_12_z z_12_c0 z_12_f0 z_12_c1 z_12_f1
        have Bz_13 := Bz_12.below st13
        clear m_12_z m_12_c0 m_12_f0 m_12_c1 m_12_f1
        have Bm_13 := Bm_12.below st13
        have x_13_z : v1.heap.size < s13.heap.size := Bx_13.lt
        have x_13_c0 : s13.cell? ⟨v1.heap.size, 0, none⟩ = some (.bool false) := (Bx_13.cell 0).trans rfl
        have x_13_f0 := Bx_13.frozen 0
        have x_13_c1 : s13.cell? ⟨v1.heap.size, 1, none⟩ = some (.slice A1 m1 c1) := (Bx_13.cell 1).trans rfl
        have x_13_f1 := Bx_13.frozen 1
        have y_13_z : v2.heap.size < s13.heap.size := By_13.lt
        have y_13_c0 : s13.cell? ⟨v2.heap.size, 0, none⟩ = some (.bool false) := (By_13.cell 0).trans rfl
        have y_13_f0 := By_13.frozen 0
        have y_13_c1 : s13.cell? ⟨v2.heap.size, 1, none⟩ = some (.slice A2 m2 c2) := (By_13.cell 1).trans rfl
        have y_13_f1 := By_13.frozen 1
        have z_13_z : (v2.heap.size + 1) < s13.heap.size := Bz_13.lt
        have z_13_c0 : s13.cell? ⟨(v2.heap.size + 1), 0, none⟩ = some (.bool n) := (Bz_13.cell 0).trans rfl
        have z_13_f0 := Bz_13.frozen 0
        have z_13_c1 : s13.cell? ⟨(v2.heap.size + 1), 1, none⟩ = some (.slice A m c) := (Bz_13.cell 1).trans rfl
        have z_13_f1 := Bz_13.frozen 1
        have m_13_z : s11.heap.size < s13.heap.size := Bm_13.lt
        have m_13_c0 : s13.cell? ⟨s11.heap.size, 0, none⟩ = some (.bool n11) := (Bm_13.cell 0).trans rfl
        have m_13_f0 := Bm_13.frozen 0
        have m_13_c1 : s13.cell? ⟨s11.heap.size, 1, none⟩ = some (.slice A11 m11 c11) := (Bm_13.cell 1).trans rfl
        have m_13_f1 := Bm_13.frozen 1
        have kx_13 := kx_12.below st13
        have ky_13 := ky_12.below st13
        have kz_13 := kz_12.below st13
        have km_13 := km_12.below st13
        go_wp2_with fail
        refine (BAdd_any _ _ _ _ _ _ _ _ _ _ _ (kz_13.below (bl_alloc (Below.refl _ _) _)) (k13.below (bl_alloc (Below.refl _ _) _)) HS.out.1 HS.out.2.2).mono ?_; rintro e s14 ⟨n14, A14, m14, c14, rfl, k14, hb14⟩
        have st14 := bl_step (bl_alloc (Below.refl _ _) _) hb14
        have bl14 := bl_step bl13 st14
        have Bo_14 : Blk s14 (s13.heap.size) 59 #[.bool n13, .slice A13 m13 c13] := (Blk.new _ _ _).below hb14
        clear x_13_z x_13_c0 x_13_f0 x_13_c1 x_13_f1
        have Bx_14 := Bx_13.below st14
        clear y_13_z y_13_c0 y_13_f0 y_13_c1 y_13_f1
        have By_14 := By_13.below st14
        clear z_13_z z_13_c0 z_13_f0 z_13_c1 z_13_f1
        have Bz_14 := Bz_13.below st14
        clear m_13_z m_13_c0 m_13_f0 m_13_c1 m_13_f1
        have Bm_14 := Bm_13.below st14
        have x_14_z : v1.heap.size < s14.heap.size := Bx_14.lt
        have x_14_c0 : s14.cell? ⟨v1.heap.size, 0, none⟩ = some (.bool false) := (Bx_14.cell 0).trans rfl
        have x_14_f0 := Bx_14.frozen 0
        have x_14_c1 : s14.cell? ⟨v1.heap.size, 1, none⟩ = some (.slice A1 m1 c1) := (Bx_14.cell 1).trans rfl
        have x_14_f1 := Bx_14.frozen 1
        have y_14_z : v2.heap.size < s14.heap.size := By_14.lt
        have y_14_c0 : s14.cell? ⟨v2.heap.size, 0, none⟩ = some (.bool false) := (By_14.cell 0).trans rfl
        have y_14_f0 := By_14.frozen 0
        have y_14_c1 : s14.cell? ⟨v2.heap.size, 1, none⟩ = some (.slice A2 m2 c2) := (By_14.cell 1).trans rfl
        have y_14_f1 := By_14.frozen 1
        have z_14_z : (v2.heap.size + 1) < s14.heap.size := Bz_14.lt
        have z_14_c0 : s14.cell? ⟨(v2.heap.size + 1), 0, none⟩ = some (.bool n) := (Bz_14.cell 0).trans rfl
        have z_14_f0 := Bz_14.frozen 0
        have z_14_c1 : s14.cell? ⟨(v2.heap.size + 1), 1, none⟩ = some (.slice A m c) := (Bz_14.cell 1).trans rfl
        have z_14_f1 := Bz_14.frozen 1
        have m_14_z : s11.heap.size < s14.heap.size := Bm_14.lt
        have m_14_c0 : s14.cell? ⟨s11.heap.size, 0, none⟩ = some (.bool n11) := (Bm_14.cell 0).trans rfl
        have m_14_f0 := Bm_14.frozen 0
        have m_14_c1 : s14.cell? ⟨s11.heap.size, 1, none⟩ = some (.slice A11 m11 c11) := (Bm_14.cell 1).trans rfl
        have m_14_f1 := Bm_14.frozen 1
        have o_14_z : s13.heap.size < s14.heap.size := Bo_14.lt
        have o_14_c0 : s14.cell? ⟨s13.heap.size, 0, none⟩ = some (.bool n13) := (Bo_14.cell 0).trans rfl
        have o_14_f0 := Bo_14.frozen 0
        have o_14_c1 : s14.cell? ⟨s13.heap.size, 1, none⟩ = some (.slice A13 m13 c13) := (Bo_14.cell 1).trans rfl
        have o_14_f1 := Bo_14.frozen 1
        have kx_14 := kx_13.below st14
        have ky_14 := ky_13.below st14
        have kz_14 := kz_13.below st14
        have km_14 := km_13.below st14
        have ko_14 := k13.below st14
        go_wp2_with fail
        have K := ((k14.set_ (p := ⟨v2.heap.size + 1, 0, none⟩) Bz_14 (by decide) (.bool n14)).set_ (p := ⟨v2.heap.size + 1, 1, none⟩) (Bz_14.put 0 _ rfl) (by decide) (.slice A14 m14 c14)).set_ (p := ⟨v2.heap.size + 1, 0, none⟩) ((Bz_14.put 0 _ rfl).put 1 _ rfl) (by decide) (.bool false)
        have BzW := ((Bz_14.put 0 (.bool n14) rfl).put 1 (.slice A14 m14 c14) rfl).put 0 (.bool false) rfl
        have blW := bl_set (bl_set (bl_set (bl_step be bl14) (p := ⟨v2.heap.size + 1, 0, none⟩) (by simp; omega) (.bool n14)) (p := ⟨v2.heap.size + 1, 1, none⟩) (by simp; omega) (.slice A14 m14 c14)) (p := ⟨v2.heap.size + 1, 0, none⟩) (by simp; omega) (.bool false)
        clear x_14_z x_14_c0 x_14_f0 x_14_c1 x_14_f1
        clear y_14_z y_14_c0 y_14_f0 y_14_c1 y_14_f1
        clear z_14_z z_14_c0 z_14_f0 z_14_c1 z_14_f1
        clear m_14_z m_14_c0 m_14_f0 m_14_c1 m_14_f1
        clear o_14_z o_14_c0 o_14_f0 o_14_c1 o_14_f1
        obtain ⟨ds, hD, hv⟩ := K.signed (Z := (Z + 1)) false
        refine (trim_any _ _ _ _ ds _ hD).mono ?_; rintro e sT ⟨nT, AT, mT, cT, rfl, kT, hbT⟩
        rw [hv] at kT
        clear hv
        have BzT := BzW.below hbT
        have zT_z : (v2.heap.size + 1) < sT.heap.size := BzT.lt
        have zT_c0 : sT.cell? ⟨(v2.heap.size + 1), 0, none⟩ = some (.bool false) := (BzT.cell 0).trans rfl
        have zT_f0 := BzT.frozen 0
        have zT_c1 : sT.cell? ⟨(v2.heap.size + 1), 1, none⟩ = some (.slice A14 m14 c14) := (BzT.cell 1).trans rfl
        have zT_f1 := BzT.frozen 1
        have KK := (kT.set_ (p := ⟨v2.heap.size + 1, 0, none⟩) BzT (by decide) (.bool nT)).set_ (p := ⟨v2.heap.size + 1, 1, none⟩) (BzT.put 0 _ rfl) (by decide) (.slice AT mT cT)
        go_wp2_with fail
        refine (Short_any _ _ _ _ _ _ KK).mono ?_; rintro e sS ⟨rfl, hbS⟩
        have blS := bl_step (bl_set (bl_set (bl_step blW hbT) (p := ⟨v2.heap.size + 1, 0, none⟩) (by simp; omega) (.bool nT)) (p := ⟨v2.heap.size + 1, 1, none⟩) (by simp; omega) (.slice AT mT cT)) hbS
        have hq := quo_of a b true false false Z HDM.out.1 HDM.out.2 HEX.out (by rw [← SA.out, ← SB.out]; exact HNG.out.symm)
        rw [if_pos (by decide)] at hq
        have HQ := Lib.hid hq
        clear hq
        go_wp2
        go_ret2
        refine ⟨?_, blS⟩; rw [HQ.out]; rfl
      · simp only [if_true, Bool.false_eq_true, if_false]
        go_wp2_with fail
        refine (Of_any _ _ (⟨by omega, by omega⟩)).mono ?_; rintro e s13 ⟨n13, A13, m13, c13, rfl, k13, hb13⟩
        have st13 := bl_step (Below.refl _ _) hb13
        have bl13 := bl_step bl12 st13
        clear x_12_z x_12_c0 x_12_f0 x_12_c1 x_12_f1
        have Bx_13 := Bx_12.below st13
        clear y_12_z y_12_c0 y_12_f0 y_12_c1 y_12_f1
        have By_13 := By_12.below st13
        clear z_12_z z_12_c0 z_12_f0 z_12_c1 z_12_f1
        have Bz_13 := Bz_12.below st13
        clear m_12_z m_12_c0 m_12_f0 m_12_c1 m_12_f1
        have Bm_13 := Bm_12.below st13
        have x_13_z : v1.heap.size < s13.heap.size := Bx_13.lt
        have x_13_c0 : s13.cell? ⟨v1.heap.size, 0, none⟩ = some (.bool false) := (Bx_13.cell 0).trans rfl
        have x_13_f0 := Bx_13.frozen 0
        have x_13_c1 : s13.cell? ⟨v1.heap.size, 1, none⟩ = some (.slice A1 m1 c1) := (Bx_13.cell 1).trans rfl
        have x_13_f1 := Bx_13.frozen 1
        have y_13_z : v2.heap.size < s13.heap.size := By_13.lt
        have y_13_c0 : s13.cell? ⟨v2.heap.size, 0, none⟩ = some (.bool false) := (By_13.cell 0).trans rfl
        have y_13_f0 := By_13.frozen 0
        have y_13_c1 : s13.cell? ⟨v2.heap.size, 1, none⟩ = some (.slice A2 m2 c2) := (By_13.cell 1).trans rfl
        have y_13_f1 := By_13.frozen 1
        have z_13_z : (v2.heap.size + 1) < s13.heap.size := Bz_13.lt
        have z_13_c0 : s13.cell? ⟨(v2.heap.size + 1), 0, none⟩ = some (.bool n) := (Bz_13.cell 0).trans rfl
        have z_13_f0 := Bz_13.frozen 0
        have z_13_c1 : s13.cell? ⟨(v2.heap.size + 1), 1, none⟩ = some (.slice A m c) := (Bz_13.cell 1).trans rfl
        have z_13_f1 := Bz_13.frozen 1
        have m_13_z : s11.heap.size < s13.heap.size := Bm_13.lt
        have m_13_c0 : s13.cell? ⟨s11.heap.size, 0, none⟩ = some (.bool n11) := (Bm_13.cell 0).trans rfl
        have m_13_f0 := Bm_13.frozen 0
        have m_13_c1 : s13.cell? ⟨s11.heap.size, 1, none⟩ = some (.slice A11 m11 c11) := (Bm_13.cell 1).trans rfl
        have m_13_f1 := Bm_13.frozen 1
        have kx_13 := kx_12.below st13
        have ky_13 := ky_12.below st13
        have kz_13 := kz_12.below st13
        have km_13 := km_12.below st13
        go_wp2_with fail
        refine (BAdd_any _ _ _ _ _ _ _ _ _ _ _ (kz_13.below (bl_alloc (Below.refl _ _) _)) (k13.below (bl_alloc (Below.refl _ _) _)) HS.out.1 HS.out.2.2).mono ?_; rintro e s14 ⟨n14, A14, m14, c14, rfl, k14, hb14⟩
        have st14 := bl_step (bl_alloc (Below.refl _ _) _) hb14
        have bl14 := bl_step bl13 st14
        have Bo_14 : Blk s14 (s13.heap.size) 59 #[.bool n13, .slice A13 m13 c13] := (Blk.new _ _ _).below hb14
        clear x_13_z x_13_c0 x_13_f0 x_13_c1 x_13_f1
        have Bx_14 := Bx_13.below st14
        clear y_13_z y_13_c0 y_13_f0 y_13_c1 y_13_f1
        have By_14 := By_13.below st14
        clear z_13_z z_13_c0 z_13_f0 z_13_c1 z_13_f1
        have Bz_14 := Bz_13.below st14
        clear m_13_z m_13_c0 m_13_f0 m_13_c1 m_13_f1
        have Bm_14 := Bm_13.below st14
        have x_14_z : v1.heap.size < s14.heap.size := Bx_14.lt
        have x_14_c0 : s14.cell? ⟨v1.heap.size, 0, none⟩ = some (.bool false) := (Bx_14.cell 0).trans rfl
        have x_14_f0 := Bx_14.frozen 0
        have x_14_c1 : s14.cell? ⟨v1.heap.size, 1, none⟩ = some (.slice A1 m1 c1) := (Bx_14.cell 1).trans rfl
        have x_14_f1 := Bx_14.frozen 1
        have y_14_z : v2.heap.size < s14.heap.size := By_14.lt
        have y_14_c0 : s14.cell? ⟨v2.heap.size, 0, none⟩ = some (.bool false) := (By_14.cell 0).trans rfl
        have y_14_f0 := By_14.frozen 0
        have y_14_c1 : s14.cell? ⟨v2.heap.size, 1, none⟩ = some (.slice A2 m2 c2) := (By_14.cell 1).trans rfl
        have y_14_f1 := By_14.frozen 1
        have z_14_z : (v2.heap.size + 1) < s14.heap.size := Bz_14.lt
        have z_14_c0 : s14.cell? ⟨(v2.heap.size + 1), 0, none⟩ = some (.bool n) := (Bz_14.cell 0).trans rfl
        have z_14_f0 := Bz_14.frozen 0
        have z_14_c1 : s14.cell? ⟨(v2.heap.size + 1), 1, none⟩ = some (.slice A m c) := (Bz_14.cell 1).trans rfl
        have z_14_f1 := Bz_14.frozen 1
        have m_14_z : s11.heap.size < s14.heap.size := Bm_14.lt
        have m_14_c0 : s14.cell? ⟨s11.heap.size, 0, none⟩ = some (.bool n11) := (Bm_14.cell 0).trans rfl
        have m_14_f0 := Bm_14.frozen 0
        have m_14_c1 : s14.cell? ⟨s11.heap.size, 1, none⟩ = some (.slice A11 m11 c11) := (Bm_14.cell 1).trans rfl
        have m_14_f1 := Bm_14.frozen 1
        have o_14_z : s13.heap.size < s14.heap.size := Bo_14.lt
        have o_14_c0 : s14.cell? ⟨s13.heap.size, 0, none⟩ = some (.bool n13) := (Bo_14.cell 0).trans rfl
        have o_14_f0 := Bo_14.frozen 0
        have o_14_c1 : s14.cell? ⟨s13.heap.size, 1, none⟩ = some (.slice A13 m13 c13) := (Bo_14.cell 1).trans rfl
        have o_14_f1 := Bo_14.frozen 1
        have kx_14 := kx_13.below st14
        have ky_14 := ky_13.below st14
        have kz_14 := kz_13.below st14
        have km_14 := km_13.below st14
        have ko_14 := k13.below st14
        go_wp2_with fail
        have K := ((k14.set_ (p := ⟨v2.heap.size + 1, 0, none⟩) Bz_14 (by decide) (.bool n14)).set_ (p := ⟨v2.heap.size + 1, 1, none⟩) (Bz_14.put 0 _ rfl) (by decide) (.slice A14 m14 c14)).set_ (p := ⟨v2.heap.size + 1, 0, none⟩) ((Bz_14.put 0 _ rfl).put 1 _ rfl) (by decide) (.bool true)
        have BzW := ((Bz_14.put 0 (.bool n14) rfl).put 1 (.slice A14 m14 c14) rfl).put 0 (.bool true) rfl
        have blW := bl_set (bl_set (bl_set (bl_step be bl14) (p := ⟨v2.heap.size + 1, 0, none⟩) (by simp; omega) (.bool n14)) (p := ⟨v2.heap.size + 1, 1, none⟩) (by simp; omega) (.slice A14 m14 c14)) (p := ⟨v2.heap.size + 1, 0, none⟩) (by simp; omega) (.bool true)
        clear x_14_z x_14_c0 x_14_f0 x_14_c1 x_14_f1
        clear y_14_z y_14_c0 y_14_f0 y_14_c1 y_14_f1
        clear z_14_z z_14_c0 z_14_f0 z_14_c1 z_14_f1
        clear m_14_z m_14_c0 m_14_f0 m_14_c1 m_14_f1
        clear o_14_z o_14_c0 o_14_f0 o_14_c1 o_14_f1
        obtain ⟨ds, hD, hv⟩ := K.signed (Z := (Z + 1)) true
        refine (trim_any _ _ _ _ ds _ hD).mono ?_; rintro e sT ⟨nT, AT, mT, cT, rfl, kT, hbT⟩
        rw [hv] at kT
        clear hv
        have BzT := BzW.below hbT
        have zT_z : (v2.heap.size + 1) < sT.heap.size := BzT.lt
        have zT_c0 : sT.cell? ⟨(v2.heap.size + 1), 0, none⟩ = some (.bool true) := (BzT.cell 0).trans rfl
        have zT_f0 := BzT.frozen 0
        have zT_c1 : sT.cell? ⟨(v2.heap.size + 1), 1, none⟩ = some (.slice A14 m14 c14) := (BzT.cell 1).trans rfl
        have zT_f1 := BzT.frozen 1
        have KK := (kT.set_ (p := ⟨v2.heap.size + 1, 0, none⟩) BzT (by decide) (.bool nT)).set_ (p := ⟨v2.heap.size + 1, 1, none⟩) (BzT.put 0 _ rfl) (by decide) (.slice AT mT cT)
        go_wp2_with fail
        refine (Short_any _ _ _ _ _ _ KK).mono ?_; rintro e sS ⟨rfl, hbS⟩
        have blS := bl_step (bl_set (bl_set (bl_step blW hbT) (p := ⟨v2.heap.size + 1, 0, none⟩) (by simp; omega) (.bool nT)) (p := ⟨v2.heap.size + 1, 1, none⟩) (by simp; omega) (.slice AT mT cT)) hbS
        have hq := quo_of a b false true false Z HDM.out.1 HDM.out.2 HEX.out (by rw [← SA.out, ← SB.out]; exact HNG.out.symm)
        rw [if_pos (by decide)] at hq
        have HQ := Lib.hid hq
        clear hq
        go_wp2
        go_ret2
        refine ⟨?_, blS⟩; rw [HQ.out]; rfl
      · simp only [if_true, Bool.false_eq_true, if_false]
        go_wp2_with fail
        refine (Of_any _ _ (⟨by omega, by omega⟩)).mono ?_; rintro e s13 ⟨n13, A13, m13, c13, rfl, k13, hb13⟩
        have st13 := bl_step (Below.refl _ _) hb13
        have bl13 := bl_step bl12 st13
        clear x_12_z x_12_c0 x_12_f0 x_12_c1 x_12_f1
        have Bx_13 := Bx_12.below st13
        clear y_12_z y_12_c0 y_12_f0 y_12_c1 y_12_f1
        have By_13 := By_12.below st13
        clear z_12_z z_12_c0 z_12_f0 z_12_c1 z_12_f1
        have Bz_13 := Bz_12.below st13
        clear m_12_z m_12_c0 m_12_f0 m_12_c1 m_12_f1
        have Bm_13 := Bm_12.below st13
        have x_13_z : v1.heap.size < s13.heap.size := Bx_13.lt
        have x_13_c0 : s13.cell? ⟨v1.heap.size, 0, none⟩ = some (.bool false) := (Bx_13.cell 0).trans rfl
        have x_13_f0 := Bx_13.frozen 0
        have x_13_c1 : s13.cell? ⟨v1.heap.size, 1, none⟩ = some (.slice A1 m1 c1) := (Bx_13.cell 1).trans rfl
        have x_13_f1 := Bx_13.frozen 1
        have y_13_z : v2.heap.size < s13.heap.size := By_13.lt
        have y_13_c0 : s13.cell? ⟨v2.heap.size, 0, none⟩ = some (.bool false) := (By_13.cell 0).trans rfl
        have y_13_f0 := By_13.frozen 0
        have y_13_c1 : s13.cell? ⟨v2.heap.size, 1, none⟩ = some (.slice A2 m2 c2) := (By_13.cell 1).trans rfl
        have y_13_f1 := By_13.frozen 1
        have z_13_z : (v2.heap.size + 1) < s13.heap.size := Bz_13.lt
        have z_13_c0 : s13.cell? ⟨(v2.heap.size + 1), 0, none⟩ = some (.bool n) := (Bz_13.cell 0).trans rfl
        have z_13_f0 := Bz_13.frozen 0
        have z_13_c1 : s13.cell? ⟨(v2.heap.size + 1), 1, none⟩ = some (.slice A m c) := (Bz_13.cell 1).trans rfl
        have z_13_f1 := Bz_13.frozen 1
        have m_13_z : s11.heap.size < s13.heap.size := Bm_13.lt
        have m_13_c0 : s13.cell? ⟨s11.heap.size, 0, none⟩ = some (.bool n11) := (Bm_13.cell 0).trans rfl
        have m_13_f0 := Bm_13.frozen 0
        have m_13_c1 : s13.cell? ⟨s11.heap.size, 1, none⟩ = some (.slice A11 m11 c11) := (Bm_13.cell 1).trans rfl
        have m_13_f1 := Bm_13.frozen 1
        have kx_13 := kx_12.below st13
        have ky_13 := ky_12.below st13
        have kz_13 := kz_12.below st13
        have km_13 := km_12.below st13
        go_wp2_with fail
        have K := (kz_13.set_ (p := ⟨v2.heap.size + 1, 0, none⟩) Bz_13 (by decide) (.bool true)).below (bl_alloc (Below.refl _ _) (Obj.cells #[.bool n13, .slice A13 m13 c13] 59))
        have BzW := (Bz_13.put 0 (.bool true) rfl).alloc (Obj.cells #[.bool n13, .slice A13 m13 c13] 59)
        have blW := bl_alloc (bl_set (bl_step be bl13) (p := ⟨v2.heap.size + 1, 0, none⟩) (by simp; omega) (.bool true)) (Obj.cells #[.bool n13, .slice A13 m13 c13] 59)
        clear x_13_z x_13_c0 x_13_f0 x_13_c1 x_13_f1
        clear y_13_z y_13_c0 y_13_f0 y_13_c1 y_13_f1
        clear z_13_z z_13_c0 z_13_f0 z_13_c1 z_13_f1
        clear m_13_z m_13_c0 m_13_f0 m_13_c1 m_13_f1
        obtain ⟨ds, hD, hv⟩ := K.signed (Z := Z) true
        refine (trim_any _ _ _ _ ds _ hD).mono ?_; rintro e sT ⟨nT, AT, mT, cT, rfl, kT, hbT⟩
        rw [hv] at kT
        clear hv
        have BzT := BzW.below hbT
        have zT_z : (v2.heap.size + 1) < sT.heap.size := BzT.lt
        have zT_c0 : sT.cell? ⟨(v2.heap.size + 1), 0, none⟩ = some (.bool true) := (BzT.cell 0).trans rfl
        have zT_f0 := BzT.frozen 0
        have zT_c1 : sT.cell? ⟨(v2.heap.size + 1), 1, none⟩ = some (.slice A m c) := (BzT.cell 1).trans rfl
        have zT_f1 := BzT.frozen 1
        have KK := (kT.set_ (p := ⟨v2.heap.size + 1, 0, none⟩) BzT (by decide) (.bool nT)).set_ (p := ⟨v2.heap.size + 1, 1, none⟩) (BzT.put 0 _ rfl) (by decide) (.slice AT mT cT)
        go_wp2_with fail
        refine (Short_any _ _ _ _ _ _ KK).mono ?_; rintro e sS ⟨rfl, hbS⟩
        have blS := bl_step (bl_set (bl_set (bl_step blW hbT) (p := ⟨v2.heap.size + 1, 0, none⟩) (by simp; omega) (.bool nT)) (p := ⟨v2.heap.size + 1, 1, none⟩) (by simp; omega) (.slice AT mT cT)) hbS
        have hq := quo_of a b true true false Z HDM.out.1 HDM.out.2 HEX.out (by rw [← SA.out, ← SB.out]; exact HNG.out.symm)
        rw [if_neg (by decide)] at hq
        have HQ := Lib.hid hq
        clear hq
        go_wp2
        go_ret2
        refine ⟨?_, blS⟩; rw [HQ.out]; rfl
      · simp only [if_true, Bool.false_eq_true, if_false]
        go_wp2_with fail
        refine (Of_any _ _ (⟨by omega, by omega⟩)).mono ?_; rintro e s13 ⟨n13, A13, m13, c13, rfl, k13, hb13⟩
        have st13 := bl_step (Below.refl _ _) hb13
        have bl13 := bl_step bl12 st13
        clear x_12_z x_12_c0 x_12_f0 x_12_c1 x_12_f1
        have Bx_13 := Bx_12.below st13
        clear y_12_z y_12_c0 y_12_f0 y_12_c1 y_12_f1
        have By_13 := By_12.below st13
        clear z_12_z z_12_c0 z_12_f0 z_12_c1 z_12_f1
        have Bz_13 := Bz_12.below st13
        clear m_12_z m_12_c0 m_12_f0 m_12_c1 m_12_f1
        have Bm_13 := Bm_12.below st13
        have x_13_z : v1.heap.size < s13.heap.size := Bx_13.lt
        have x_13_c0 : s13.cell? ⟨v1.heap.size, 0, none⟩ = some (.bool false) := (Bx_13.cell 0).trans rfl
        have x_13_f0 := Bx_13.frozen 0
        have x_13_c1 : s13.cell? ⟨v1.heap.size, 1, none⟩ = some (.slice A1 m1 c1) := (Bx_13.cell 1).trans rfl
        have x_13_f1 := Bx_13.frozen 1
        have y_13_z : v2.heap.size < s13.heap.size := By_13.lt
        have y_13_c0 : s13.cell? ⟨v2.heap.size, 0, none⟩ = some (.bool false) := (By_13.cell 0).trans rfl
        have y_13_f0 := By_13.frozen 0
        have y_13_c1 : s13.cell? ⟨v2.heap.size, 1, none⟩ = some (.slice A2 m2 c2) := (By_13.cell 1).trans rfl
        have y_13_f1 := By_13.frozen 1
        have z_13_z : (v2.heap.size + 1) < s13.heap.size := Bz_13.lt
        have z_13_c0 : s13.cell? ⟨(v2.heap.size + 1), 0, none⟩ = some (.bool n) := (Bz_13.cell 0).trans rfl
        have z_13_f0 := Bz_13.frozen 0
        have z_13_c1 : s13.cell? ⟨(v2.heap.size + 1), 1, none⟩ = some (.slice A m c) := (Bz_13.cell 1).trans rfl
        have z_13_f1 := Bz_13.frozen 1
        have m_13_z : s11.heap.size < s13.heap.size := Bm_13.lt
        have m_13_c0 : s13.cell? ⟨s11.heap.size, 0, none⟩ = some (.bool n11) := (Bm_13.cell 0).trans rfl
        have m_13_f0 := Bm_13.frozen 0
        have m_13_c1 : s13.cell? ⟨s11.heap.size, 1, none⟩ = some (.slice A11 m11 c11) := (Bm_13.cell 1).trans rfl
        have m_13_f1 := Bm_13.frozen 1
        have kx_13 := kx_12.below st13
        have ky_13 := ky_12.below st13
        have kz_13 := kz_12.below st13
        have km_13 := km_12.below st13
        go_wp2_with fail
        have K := (kz_13.set_ (p := ⟨v2.heap.size + 1, 0, none⟩) Bz_13 (by decide) (.bool false)).below (bl_alloc (Below.refl _ _) (Obj.cells #[.bool n13, .slice A13 m13 c13] 59))
        have BzW := (Bz_13.put 0 (.bool false) rfl).alloc (Obj.cells #[.bool n13, .slice A13 m13 c13] 59)
        have blW := bl_alloc (bl_set (bl_step be bl13) (p := ⟨v2.heap.size + 1, 0, none⟩) (by simp; omega) (.bool false)) (Obj.cells #[.bool n13, .slice A13 m13 c13] 59)
        clear x_13_z x_13_c0 x_13_f0 x_13_c1 x_13_f1
        clear y_13_z y_13_c0 y_13_f0 y_13_c1 y_13_f1
        clear z_13_z z_13_c0 z_13_f0 z_13_c1 z_13_f1
        clear m_13_z m_13_c0 m_13_f0 m_13_c1 m_13_f1
        obtain ⟨ds, hD, hv⟩ := K.signed (Z := Z) false
        refine (trim_any _ _ _ _ ds _ hD).mono ?_; rintro e sT ⟨nT, AT, mT, cT, rfl, kT, hbT⟩
        rw [hv] at kT
        clear hv
        have BzT := BzW.below hbT
        have zT_z : (v2.heap.size + 1) < sT.heap.size := BzT.lt
        have zT_c0 : sT.cell? ⟨(v2.heap.size + 1), 0, none⟩ = some (.bool false) := (BzT.cell 0).trans rfl
        have zT_f0 := BzT.frozen 0
        have zT_c1 : sT.cell? ⟨(v2.heap.size + 1), 1, none⟩ = some (.slice A m c) := (BzT.cell 1).trans rfl
        have zT_f1 := BzT.frozen 1
        have KK := (kT.set_ (p := ⟨v2.heap.size + 1, 0, none⟩) BzT (by decide) (.bool nT)).set_ (p := ⟨v2.heap.size + 1, 1, none⟩) (BzT.put 0 _ rfl) (by decide) (.slice AT mT cT)
        go_wp2_with fail
        refine (Short_any _ _ _ _ _ _ KK).mono ?_; rintro e sS ⟨rfl, hbS⟩
        have blS := bl_step (bl_set (bl_set (bl_step blW hbT) (p := ⟨v2.heap.size + 1, 0, none⟩) (by simp; omega) (.bool nT)) (p := ⟨v2.heap.size + 1, 1, none⟩) (by simp; omega) (.slice AT mT cT)) hbS
        have hq := quo_of a b false false true Z HDM.out.1 HDM.out.2 HEX.out (by rw [← SA.out, ← SB.out]; exact HNG.out.symm)
        rw [if_neg (by decide)] at hq
        have HQ := Lib.hid hq
        clear hq
        go_wp2
        go_ret2
        refine ⟨?_, blS⟩; rw [HQ.out]; rfl
      · simp only [if_true, Bool.false_eq_true, if_false]
        go_wp2_with fail
        refine (Of_any _ _ (⟨by omega, by omega⟩)).mono ?_; rintro e s13 ⟨n13, A13, m13, c13, rfl, k13, hb13⟩
        have st13 := bl_step (Below.refl _ _) hb13
        have bl13 := bl_step bl12 st13
        clear x_12_z x_12_c0 x_12_f0 x_12_c1 x_12_f1
        have Bx_13 := Bx_12.below st13
        clear y_12_z y_12_c0 y_12_f0 y_12_c1 y_12_f1
        have By_13 := By_12.below st13
        clear z_12_z z_12_c0 z_12_f0 z_12_c1 z_12_f1
        have Bz_13 := Bz_12.below st13
        clear m_12_z m_12_c0 m_12_f0 m_12_c1 m_12_f1
        have Bm_13 := Bm_12.below st13
        have x_13_z : v1.heap.size < s13.heap.size := Bx_13.lt
        have x_13_c0 : s13.cell? ⟨v1.heap.size, 0, none⟩ = some (.bool false) := (Bx_13.cell 0).trans rfl
        have x_13_f0 := Bx_13.frozen 0
        have x_13_c1 : s13.cell? ⟨v1.heap.size, 1, none⟩ = some (.slice A1 m1 c1) := (Bx_13.cell 1).trans rfl
        have x_13_f1 := Bx_13.frozen 1
        have y_13_z : v2.heap.size < s13.heap.size := By_13.lt
        have y_13_c0 : s13.cell? ⟨v2.heap.size, 0, none⟩ = some (.bool false) := (By_13.cell 0).trans rfl
        have y_13_f0 := By_13.frozen 0
        have y_13_c1 : s13.cell? ⟨v2.heap.size, 1, none⟩ = some (.slice A2 m2 c2) := (By_13.cell 1).trans rfl
        have y_13_f1 := By_13.frozen 1
        have z_13_z : (v2.heap.size + 1) < s13.heap.size := Bz_13.lt
        have z_13_c0 : s13.cell? ⟨(v2.heap.size + 1), 0, none⟩ = some (.bool n) := (Bz_13.cell 0).trans rfl
        have z_13_f0 := Bz_13.frozen 0
        have z_13_c1 : s13.cell? ⟨(v2.heap.size + 1), 1, none⟩ = some (.slice A m c) := (Bz_13.cell 1).trans rfl
        have z_13_f1 := Bz_13.frozen 1
        have m_13_z : s11.heap.size < s13.heap.size := Bm_13.lt
        have m_13_c0 : s13.cell? ⟨s11.heap.size, 0, none⟩ = some (.bool n11) := (Bm_13.cell 0).trans rfl
        have m_13_f0 := Bm_13.frozen 0
        have m_13_c1 : s13.cell? ⟨s11.heap.size, 1, none⟩ = some (.slice A11 m11 c11) := (Bm_13.cell 1).trans rfl
        have m_13_f1 := Bm_13.frozen 1
        have kx_13 := kx_12.below st13
        have ky_13 := ky_12.below st13
        have kz_13 := kz_12.below st13
        have km_13 := km_12.below st13
        go_wp2_with fail
        have K := (kz_13.set_ (p := ⟨v2.heap.size + 1, 0, none⟩) Bz_13 (by decide) (.bool false)).below (bl_alloc (Below.refl _ _) (Obj.cells #[.bool n13, .slice A13 m13 c13] 59))
        have BzW := (Bz_13.put 0 (.bool false) rfl).alloc (Obj.cells #[.bool n13, .slice A13 m13 c13] 59)
        have blW := bl_alloc (bl_set (bl_step be bl13) (p := ⟨v2.heap.size + 1, 0, none⟩) (by simp; omega) (.bool false)) (Obj.cells #[.bool n13, .slice A13 m13 c13] 59)
        clear x_13_z x_13_c0 x_13_f0 x_13_c1 x_13_f1
        clear y_13_z y_13_c0 y_13_f0 y_13_c1 y_13_f1
        clear z_13_z z_13_c0 z_13_f0 z_13_c1 z_13_f1
        clear m_13_z m_13_c0 m_13_f0 m_13_c1 m_13_f1
        obtain ⟨ds, hD, hv⟩ := K.signed (Z := Z) false
        refine (trim_any _ _ _ _ ds _ hD).mono ?_; rintro e sT ⟨nT, AT, mT, cT, rfl, kT, hbT⟩
        rw [hv] at kT
        clear hv
        have BzT := BzW.below hbT
        have zT_z : (v2.heap.size + 1) < sT.heap.size := BzT.lt
        have zT_c0 : sT.cell? ⟨(v2.heap.size + 1), 0, none⟩ = some (.bool false) := (BzT.cell 0).trans rfl
        have zT_f0 := BzT.frozen 0
        have zT_c1 : sT.cell? ⟨(v2.heap.size + 1), 1, none⟩ = some (.slice A m c) := (BzT.cell 1).trans rfl
        have zT_f1 := BzT.frozen 1
        have KK := (kT.set_ (p := ⟨v2.heap.size + 1, 0, none⟩) BzT (by decide) (.bool nT)).set_ (p := ⟨v2.heap.size + 1, 1, none⟩) (BzT.put 0 _ rfl) (by decide) (.slice AT mT cT)
        go_wp2_with fail
        refine (Short_any _ _ _ _ _ _ KK).mono ?_; rintro e sS ⟨rfl, hbS⟩
        have blS := bl_step (bl_set (bl_set (bl_step blW hbT) (p := ⟨v2.heap.size + 1, 0, none⟩) (by simp; omega) (.bool nT)) (p := ⟨v2.heap.size + 1, 1, none⟩) (by simp; omega) (.slice AT mT cT)) hbS
        have hq := quo_of a b true false true Z HDM.out.1 HDM.out.2 HEX.out (by rw [← SA.out, ← SB.out]; exact HNG.out.symm)
        rw [if_neg (by decide)] at hq
        have HQ := Lib.hid hq
        clear hq
        go_wp2
        go_ret2
        refine ⟨?_, blS⟩; rw [HQ.out]; rfl
      · simp only [if_true, Bool.false_eq_true, if_false]
        go_wp2_with fail
        refine (Of_any _ _ (⟨by omega, by omega⟩)).mono ?_; rintro e s13 ⟨n13, A13, m13, c13, rfl, k13, hb13⟩
        have st13 := bl_step (Below.refl _ _) hb13
        have bl13 := bl_step bl12 st13
        clear x_12_z x_12_c0 x_12_f0 x_12_c1 x_12_f1
        have Bx_13 := Bx_12.below st13
        clear y_12_z y_12_c0 y_12_f0 y_12_c1 y_12_f1
        have By_13 := By_12.below st13
        clear z_12_z z_12_c0 z_12_f0 z_12_c1 z_12_f1
        have Bz_13 := Bz_12.below st13
        clear m_12_z m_12_c0 m_12_f0 m_12_c1 m_12_f1
        have Bm_13 := Bm_12.below st13
        have x_13_z : v1.heap.size < s13.heap.size := Bx_13.lt
        have x_13_c0 : s13.cell? ⟨v1.heap.size, 0, none⟩ = some (.bool false) := (Bx_13.cell 0).trans rfl
        have x_13_f0 := Bx_13.frozen 0
        have x_13_c1 : s13.cell? ⟨v1.heap.size, 1, none⟩ = some (.slice A1 m1 c1) := (Bx_13.cell 1).trans rfl
        have x_13_f1 := Bx_13.frozen 1
        have y_13_z : v2.heap.size < s13.heap.size := By_13.lt
        have y_13_c0 : s13.cell? ⟨v2.heap.size, 0, none⟩ = some (.bool false) := (By_13.cell 0).trans rfl
        have y_13_f0 := By_13.frozen 0
        have y_13_c1 : s13.cell? ⟨v2.heap.size, 1, none⟩ = some (.slice A2 m2 c2) := (By_13.cell 1).trans rfl
        have y_13_f1 := By_13.frozen 1
        have z_13_z : (v2.heap.size + 1) < s13.heap.size := Bz_13.lt
        have z_13_c0 : s13.cell? ⟨(v2.heap.size + 1), 0, none⟩ = some (.bool n) := (Bz_13.cell 0).trans rfl
        have z_13_f0 := Bz_13.frozen 0
        have z_13_c1 : s13.cell? ⟨(v2.heap.size + 1), 1, none⟩ = some (.slice A m c) := (Bz_13.cell 1).trans rfl
        have z_13_f1 := Bz_13.frozen 1
        have m_13_z : s11.heap.size < s13.heap.size := Bm_13.lt
        have m_13_c0 : s13.cell? ⟨s11.heap.size, 0, none⟩ = some (.bool n11) := (Bm_13.cell 0).trans rfl
        have m_13_f0 := Bm_13.frozen 0
        have m_13_c1 : s13.cell? ⟨s11.heap.size, 1, none⟩ = some (.slice A11 m11 c11) := (Bm_13.cell 1).trans rfl
        have m_13_f1 := Bm_13.frozen 1
        have kx_13 := kx_12.below st13
        have ky_13 := ky_12.below st13
        have kz_13 := kz_12.below st13
        have km_13 := km_12.below st13
        go_wp2_with fail
        have K := (kz_13.set_ (p := ⟨v2.heap.size + 1, 0, none⟩) Bz_13 (by decide) (.bool true)).below (bl_alloc (Below.refl _ _) (Obj.cells #[.bool n13, .slice A13 m13 c13] 59))
        have BzW := (Bz_13.put 0 (.bool true) rfl).alloc (Obj.cells #[.bool n13, .slice A13 m13 c13] 59)
        have blW := bl_alloc (bl_set (bl_step be bl13) (p := ⟨v2.heap.size + 1, 0, none⟩) (by simp; omega) (.bool true)) (Obj.cells #[.bool n13, .slice A13 m13 c13] 59)
        clear x_13_z x_13_c0 x_13_f0 x_13_c1 x_13_f1
        clear y_13_z y_13_c0 y_13_f0 y_13_c1 y_13_f1
        clear z_13_z z_13_c0 z_13_f0 z_13_c1 z_13_f1
        clear m_13_z m_13_c0 m_13_f0 m_13_c1 m_13_f1
        obtain ⟨ds, hD, hv⟩ := K.signed (Z := Z) true
        refine (trim_any _ _ _ _ ds _ hD).mono ?_; rintro e sT ⟨nT, AT, mT, cT, rfl, kT, hbT⟩
        rw [hv] at kT
        clear hv
        have BzT := BzW.below hbT
        have zT_z : (v2.heap.size + 1) < sT.heap.size := BzT.lt
        have zT_c0 : sT.cell? ⟨(v2.heap.size + 1), 0, none⟩ = some (.bool true) := (BzT.cell 0).trans rfl
        have zT_f0 := BzT.frozen 0
        have zT_c1 : sT.cell? ⟨(v2.heap.size + 1), 1, none⟩ = some (.slice A m c) := (BzT.cell 1).trans rfl
        have zT_f1 := BzT.frozen 1
        have KK := (kT.set_ (p := ⟨v2.heap.size + 1, 0, none⟩) BzT (by decide) (.bool nT)).set_ (p := ⟨v2.heap.size + 1, 1, none⟩) (BzT.put 0 _ rfl) (by decide) (.slice AT mT cT)
        go_wp2_with fail
        refine (Short_any _ _ _ _ _ _ KK).mono ?_; rintro e sS ⟨rfl, hbS⟩
        have blS := bl_step (bl_set (bl_set (bl_step blW hbT) (p := ⟨v2.heap.size + 1, 0, none⟩) (by simp; omega) (.bool nT)) (p := ⟨v2.heap.size + 1, 1, none⟩) (by simp; omega) (.slice AT mT cT)) hbS
        have hq := quo_of a b false true true Z HDM.out.1 HDM.out.2 HEX.out (by rw [← SA.out, ← SB.out]; exact HNG.out.symm)
        rw [if_neg (by decide)] at hq
        have HQ := Lib.hid hq
        clear hq
        go_wp2
        go_ret2
        refine ⟨?_, blS⟩; rw [HQ.out]; rfl
      · simp only [if_true, Bool.false_eq_true, if_false]
        go_wp2_with fail
        refine (Of_any _ _ (⟨by omega, by omega⟩)).mono ?_; rintro e s13 ⟨n13, A13, m13, c13, rfl, k13, hb13⟩
        have st13 := bl_step (Below.refl _ _) hb13
        have bl13 := bl_step bl12 st13
        clear x_12_z x_12_c0 x_12_f0 x_12_c1 x_12_f1
        have Bx_13 := Bx_12.below st13
        clear y_12_z y_12_c0 y_12_f0 y_12_c1 y_12_f1
        have By_13 := By_12.below st13
        clear z_12_z z_12_c0 z_12_f0 z_12_c1 z_12_f1
        have Bz_13 := Bz_12.below st13
        clear m_12_z m_12_c0 m_12_f0 m_12_c1 m_12_f1
        have Bm_13 := Bm_12.below st13
        have x_13_z : v1.heap.size < s13.heap.size := Bx_13.lt
        have x_13_c0 : s13.cell? ⟨v1.heap.size, 0, none⟩ = some (.bool false) := (Bx_13.cell 0).trans rfl
        have x_13_f0 := Bx_13.frozen 0
        have x_13_c1 : s13.cell? ⟨v1.heap.size, 1, none⟩ = some (.slice A1 m1 c1) := (Bx_13.cell 1).trans rfl
        have x_13_f1 := Bx_13.frozen 1
        have y_13_z : v2.heap.size < s13.heap.size := By_13.lt
        have y_13_c0 : s13.cell? ⟨v2.heap.size, 0, none⟩ = some (.bool false) := (By_13.cell 0).trans rfl
        have y_13_f0 := By_13.frozen 0
        have y_13_c1 : s13.cell? ⟨v2.heap.size, 1, none⟩ = some (.slice A2 m2 c2) := (By_13.cell 1).trans rfl
        have y_13_f1 := By_13.frozen 1
        have z_13_z : (v2.heap.size + 1) < s13.heap.size := Bz_13.lt
        have z_13_c0 : s13.cell? ⟨(v2.heap.size + 1), 0, none⟩ = some (.bool n) := (Bz_13.cell 0).trans rfl
        have z_13_f0 := Bz_13.frozen 0
        have z_13_c1 : s13.cell? ⟨(v2.heap.size + 1), 1, none⟩ = some (.slice A m c) := (Bz_13.cell 1).trans rfl
        have z_13_f1 := Bz_13.frozen 1
        have m_13_z : s11.heap.size < s13.heap.size := Bm_13.lt
        have m_13_c0 : s13.cell? ⟨s11.heap.size, 0, none⟩ = some (.bool n11) := (Bm_13.cell 0).trans rfl
        have m_13_f0 := Bm_13.frozen 0
        have m_13_c1 : s13.cell? ⟨s11.heap.size, 1, none⟩ = some (.slice A11 m11 c11) := (Bm_13.cell 1).trans rfl
        have m_13_f1 := Bm_13.frozen 1
        have kx_13 := kx_12.below st13
        have ky_13 := ky_12.below st13
        have kz_13 := kz_12.below st13
        have km_13 := km_12.below st13
        go_wp2_with fail
        have K := (kz_13.set_ (p := ⟨v2.heap.size + 1, 0, none⟩) Bz_13 (by decide) (.bool true)).below (bl_alloc (Below.refl _ _) (Obj.cells #[.bool n13, .slice A13 m13 c13] 59))
        have BzW := (Bz_13.put 0 (.bool true) rfl).alloc (Obj.cells #[.bool n13, .slice A13 m13 c13] 59)
        have blW := bl_alloc (bl_set (bl_step be bl13) (p := ⟨v2.heap.size + 1, 0, none⟩) (by simp; omega) (.bool true)) (Obj.cells #[.bool n13, .slice A13 m13 c13] 59)
        clear x_13_z x_13_c0 x_13_f0 x_13_c1 x_13_f1
        clear y_13_z y_13_c0 y_13_f0 y_13_c1 y_13_f1
        clear z_13_z z_13_c0 z_13_f0 z_13_c1 z_13_f1
        clear m_13_z m_13_c0 m_13_f0 m_13_c1 m_13_f1
        obtain ⟨ds, hD, hv⟩ := K.signed (Z := Z) true
        refine (trim_any _ _ _ _ ds _ hD).mono ?_; rintro e sT ⟨nT, AT, mT, cT, rfl, kT, hbT⟩
        rw [hv] at kT
        clear hv
        have BzT := BzW.below hbT
        have zT_z : (v2.heap.size + 1) < sT.heap.size := BzT.lt
        have zT_c0 : sT.cell? ⟨(v2.heap.size + 1), 0, none⟩ = some (.bool true) := (BzT.cell 0).trans rfl
        have zT_f0 := BzT.frozen 0
        have zT_c1 : sT.cell? ⟨(v2.heap.size + 1), 1, none⟩ = some (.slice A m c) := (BzT.cell 1).trans rfl
        have zT_f1 := BzT.frozen 1
        have KK := (kT.set_ (p := ⟨v2.heap.size + 1, 0, none⟩) BzT (by decide) (.bool nT)).set_ (p := ⟨v2.heap.size + 1, 1, none⟩) (BzT.put 0 _ rfl) (by decide) (.slice AT mT cT)
        go_wp2_with fail
        refine (Short_any _ _ _ _ _ _ KK).mono ?_; rintro e sS ⟨rfl, hbS⟩
        have blS := bl_step (bl_set (bl_set (bl_step blW hbT) (p := ⟨v2.heap.size + 1, 0, none⟩) (by simp; omega) (.bool nT)) (p := ⟨v2.heap.size + 1, 1, none⟩) (by simp; omega) (.slice AT mT cT)) hbS
        have hq := quo_of a b true true true Z HDM.out.1 HDM.out.2 HEX.out (by rw [← SA.out, ← SB.out]; exact HNG.out.symm)
        rw [if_neg (by decide)] at hq
        have HQ := Lib.hid hq
        clear hq
        go_wp2
        go_ret2
        refine ⟨?_, blS⟩; rw [HQ.out]; rfl
  
end Go.Proofs.YtkdklmkcanjjfaaDoor
