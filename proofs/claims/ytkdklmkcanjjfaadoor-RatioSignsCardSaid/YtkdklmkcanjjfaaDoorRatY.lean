/- The walks of Parse, the program's and the reference's. -/
import Derived.Test.YtkdklmkcanjjfaaDoorRatX
namespace Go.Proofs.YtkdklmkcanjjfaaDoor
open Go.RowKit
set_option linter.unusedVariables false
set_option linter.unusedSimpArgs false
set_option maxRecDepth 100000

theorem cut_len (l : List UInt8) : (parseA l).length ≤ l.length ∧ (parseB l).length ≤ l.length + 1 := by
  unfold parseA parseB Lib.cut
  split
  · simp only [if_true, List.length_take, List.length_drop]; omega
  · simp
set_option maxHeartbeats 1600000 in
theorem parse_bo (s : ByteArray) (w : World) (a b : ByteArray) (has : Bool) (b' : ByteArray) (hb' : b' = if has = true then b else ⟨#[49]⟩) (n d : Int)
    (HC : Hid (∀ w, Calls Tryd.prog 46 #[.string s, .string ⟨#[47]⟩] w fun e w' => e = .returned (.tuple #[.string a, .string b, .bool has]) ∧ Below w.heap.size w w'))
    (H1 : Hid (∀ w1, Below w.heap.size w w1 → Calls Tryd.prog 47 #[.string a, .int .i64 10, .int .i64 64] w1 fun e w' => ∃ v N, e = .returned (.tuple #[.int .i64 v, .iface 110 (.pointer (some ⟨N, 0, none⟩))]) ∧ InI v ∧ Below w1.heap.size w1 w'))
    (H2 : Hid (∀ w1, Below w.heap.size w w1 → Calls Tryd.prog 47 #[.string b', .int .i64 10, .int .i64 64] w1 fun e w' => e = .returned (.tuple #[.int .i64 d, .nilIface]) ∧ Below w1.heap.size w1 w')) :
    Calls Tryd.prog 20 #[.string s] w fun e w' => e = .returned (.tuple #[.agg #[.int .i64 0, .int .i64 0], .int .i64 4]) ∧ Below w.heap.size w w' := by
  have HP := Lib.hid hb'
  clear hb'
  cases has
  · obtain rfl : b' = ⟨#[49]⟩ := HP.out
    clear HP
    go_enter Tryd.func20, Tryd.ntmps20
    go_wp2_with fail
    (with_reducible refine (HC.out _).mono ?_); rintro e v1 ⟨rfl, hb1⟩
    have st1 := bl_step (bl_alloc (Below.refl _ _) _) hb1
    have bl1 := st1
    have Br_1 : Blk v1 (w.heap.size) 23 #[.int .i64 0, .int .i64 0] := (Blk.new _ _ _).below hb1
    have r_1_z : w.heap.size < v1.heap.size := Br_1.lt
    have r_1_c0 : v1.cell? ⟨w.heap.size, 0, none⟩ = some (.int .i64 0) := (Br_1.cell 0).trans rfl
    have r_1_f0 := Br_1.frozen 0
    have r_1_c1 : v1.cell? ⟨w.heap.size, 1, none⟩ = some (.int .i64 0) := (Br_1.cell 1).trans rfl
    have r_1_f1 := Br_1.frozen 1
    go_wp2_with fail
    (with_reducible refine (H1.out _ bl1).mono ?_); rintro e v2 ⟨p2, N2, rfl, ip2, hb2⟩
    have st2 := bl_step (Below.refl _ _) hb2
    have bl2 := bl_step bl1 st2
    clear r_1_z r_1_c0 r_1_f0 r_1_c1 r_1_f1
    have Br_2 := Br_1.below st2
    have r_2_z : w.heap.size < v2.heap.size := Br_2.lt
    have r_2_c0 : v2.cell? ⟨w.heap.size, 0, none⟩ = some (.int .i64 0) := (Br_2.cell 0).trans rfl
    have r_2_f0 := Br_2.frozen 0
    have r_2_c1 : v2.cell? ⟨w.heap.size, 1, none⟩ = some (.int .i64 0) := (Br_2.cell 1).trans rfl
    have r_2_f1 := Br_2.frozen 1
    go_wp2_with fail
    (with_reducible refine (H2.out _ bl2).mono ?_); rintro e v3 ⟨rfl, hb3⟩
    have st3 := bl_step (Below.refl _ _) hb3
    have bl3 := bl_step bl2 st3
    clear r_2_z r_2_c0 r_2_f0 r_2_c1 r_2_f1
    have Br_3 := Br_2.below st3
    have r_3_z : w.heap.size < v3.heap.size := Br_3.lt
    have r_3_c0 : v3.cell? ⟨w.heap.size, 0, none⟩ = some (.int .i64 0) := (Br_3.cell 0).trans rfl
    have r_3_f0 := Br_3.frozen 0
    have r_3_c1 : v3.cell? ⟨w.heap.size, 1, none⟩ = some (.int .i64 0) := (Br_3.cell 1).trans rfl
    have r_3_f1 := Br_3.frozen 1
    go_wp2
    refine bodyPost_ret (v := .tuple #[.agg #[.int .i64 0, .int .i64 0], .int .i64 4]) (by simp [results, Tryd.results20, go_sem, r_3_c0, r_3_f0, r_3_c1, r_3_f1, r_3_z]) rfl ⟨rfl, ?_⟩
    (repeat (first | exact Below.refl _ _ | with_reducible assumption | refine bl_alloc ?_ _ | refine bl_set ?_ (by simp <;> omega) _ | refine bl_drew ?_ | refine bl_drewN ?_ _ | refine bl_step ?_ (by assumption)))
  · obtain rfl : b' = b := HP.out
    clear HP
    go_enter Tryd.func20, Tryd.ntmps20
    go_wp2_with fail
    (with_reducible refine (HC.out _).mono ?_); rintro e v1 ⟨rfl, hb1⟩
    have st1 := bl_step (bl_alloc (Below.refl _ _) _) hb1
    have bl1 := st1
    have Br_1 : Blk v1 (w.heap.size) 23 #[.int .i64 0, .int .i64 0] := (Blk.new _ _ _).below hb1
    have r_1_z : w.heap.size < v1.heap.size := Br_1.lt
    have r_1_c0 : v1.cell? ⟨w.heap.size, 0, none⟩ = some (.int .i64 0) := (Br_1.cell 0).trans rfl
    have r_1_f0 := Br_1.frozen 0
    have r_1_c1 : v1.cell? ⟨w.heap.size, 1, none⟩ = some (.int .i64 0) := (Br_1.cell 1).trans rfl
    have r_1_f1 := Br_1.frozen 1
    go_wp2_with fail
    (with_reducible refine (H1.out _ bl1).mono ?_); rintro e v2 ⟨p2, N2, rfl, ip2, hb2⟩
    have st2 := bl_step (Below.refl _ _) hb2
    have bl2 := bl_step bl1 st2
    clear r_1_z r_1_c0 r_1_f0 r_1_c1 r_1_f1
    have Br_2 := Br_1.below st2
    have r_2_z : w.heap.size < v2.heap.size := Br_2.lt
    have r_2_c0 : v2.cell? ⟨w.heap.size, 0, none⟩ = some (.int .i64 0) := (Br_2.cell 0).trans rfl
    have r_2_f0 := Br_2.frozen 0
    have r_2_c1 : v2.cell? ⟨w.heap.size, 1, none⟩ = some (.int .i64 0) := (Br_2.cell 1).trans rfl
    have r_2_f1 := Br_2.frozen 1
    go_wp2_with fail
    (with_reducible refine (H2.out _ bl2).mono ?_); rintro e v3 ⟨rfl, hb3⟩
    have st3 := bl_step (Below.refl _ _) hb3
    have bl3 := bl_step bl2 st3
    clear r_2_z r_2_c0 r_2_f0 r_2_c1 r_2_f1
    have Br_3 := Br_2.below st3
    have r_3_z : w.heap.size < v3.heap.size := Br_3.lt
    have r_3_c0 : v3.cell? ⟨w.heap.size, 0, none⟩ = some (.int .i64 0) := (Br_3.cell 0).trans rfl
    have r_3_f0 := Br_3.frozen 0
    have r_3_c1 : v3.cell? ⟨w.heap.size, 1, none⟩ = some (.int .i64 0) := (Br_3.cell 1).trans rfl
    have r_3_f1 := Br_3.frozen 1
    go_wp2
    refine bodyPost_ret (v := .tuple #[.agg #[.int .i64 0, .int .i64 0], .int .i64 4]) (by simp [results, Tryd.results20, go_sem, r_3_c0, r_3_f0, r_3_c1, r_3_f1, r_3_z]) rfl ⟨rfl, ?_⟩
    (repeat (first | exact Below.refl _ _ | with_reducible assumption | refine bl_alloc ?_ _ | refine bl_set ?_ (by simp <;> omega) _ | refine bl_drew ?_ | refine bl_drewN ?_ _ | refine bl_step ?_ (by assumption)))
set_option maxHeartbeats 1600000 in
theorem parse_bb (s : ByteArray) (w : World) (a b : ByteArray) (has : Bool) (b' : ByteArray) (hb' : b' = if has = true then b else ⟨#[49]⟩) (n d : Int)
    (HC : Hid (∀ w, Calls Tryd.prog 46 #[.string s, .string ⟨#[47]⟩] w fun e w' => e = .returned (.tuple #[.string a, .string b, .bool has]) ∧ Below w.heap.size w w'))
    (H1 : Hid (∀ w1, Below w.heap.size w w1 → Calls Tryd.prog 47 #[.string a, .int .i64 10, .int .i64 64] w1 fun e w' => ∃ v N, e = .returned (.tuple #[.int .i64 v, .iface 110 (.pointer (some ⟨N, 0, none⟩))]) ∧ InI v ∧ Below w1.heap.size w1 w'))
    (H2 : Hid (∀ w1, Below w.heap.size w w1 → Calls Tryd.prog 47 #[.string b', .int .i64 10, .int .i64 64] w1 fun e w' => ∃ v N, e = .returned (.tuple #[.int .i64 v, .iface 110 (.pointer (some ⟨N, 0, none⟩))]) ∧ InI v ∧ Below w1.heap.size w1 w')) :
    Calls Tryd.prog 20 #[.string s] w fun e w' => e = .returned (.tuple #[.agg #[.int .i64 0, .int .i64 0], .int .i64 4]) ∧ Below w.heap.size w w' := by
  have HP := Lib.hid hb'
  clear hb'
  cases has
  · obtain rfl : b' = ⟨#[49]⟩ := HP.out
    clear HP
    go_enter Tryd.func20, Tryd.ntmps20
    go_wp2_with fail
    (with_reducible refine (HC.out _).mono ?_); rintro e v1 ⟨rfl, hb1⟩
    have st1 := bl_step (bl_alloc (Below.refl _ _) _) hb1
    have bl1 := st1
    have Br_1 : Blk v1 (w.heap.size) 23 #[.int .i64 0, .int .i64 0] := (Blk.new _ _ _).below hb1
    have r_1_z : w.heap.size < v1.heap.size := Br_1.lt
    have r_1_c0 : v1.cell? ⟨w.heap.size, 0, none⟩ = some (.int .i64 0) := (Br_1.cell 0).trans rfl
    have r_1_f0 := Br_1.frozen 0
    have r_1_c1 : v1.cell? ⟨w.heap.size, 1, none⟩ = some (.int .i64 0) := (Br_1.cell 1).trans rfl
    have r_1_f1 := Br_1.frozen 1
    go_wp2_with fail
    (with_reducible refine (H1.out _ bl1).mono ?_); rintro e v2 ⟨p2, N2, rfl, ip2, hb2⟩
    have st2 := bl_step (Below.refl _ _) hb2
    have bl2 := bl_step bl1 st2
    clear r_1_z r_1_c0 r_1_f0 r_1_c1 r_1_f1
    have Br_2 := Br_1.below st2
    have r_2_z : w.heap.size < v2.heap.size := Br_2.lt
    have r_2_c0 : v2.cell? ⟨w.heap.size, 0, none⟩ = some (.int .i64 0) := (Br_2.cell 0).trans rfl
    have r_2_f0 := Br_2.frozen 0
    have r_2_c1 : v2.cell? ⟨w.heap.size, 1, none⟩ = some (.int .i64 0) := (Br_2.cell 1).trans rfl
    have r_2_f1 := Br_2.frozen 1
    go_wp2_with fail
    (with_reducible refine (H2.out _ bl2).mono ?_); rintro e v3 ⟨p3, N3, rfl, ip3, hb3⟩
    have st3 := bl_step (Below.refl _ _) hb3
    have bl3 := bl_step bl2 st3
    clear r_2_z r_2_c0 r_2_f0 r_2_c1 r_2_f1
    have Br_3 := Br_2.below st3
    have r_3_z : w.heap.size < v3.heap.size := Br_3.lt
    have r_3_c0 : v3.cell? ⟨w.heap.size, 0, none⟩ = some (.int .i64 0) := (Br_3.cell 0).trans rfl
    have r_3_f0 := Br_3.frozen 0
    have r_3_c1 : v3.cell? ⟨w.heap.size, 1, none⟩ = some (.int .i64 0) := (Br_3.cell 1).trans rfl
    have r_3_f1 := Br_3.frozen 1
    go_wp2
    refine bodyPost_ret (v := .tuple #[.agg #[.int .i64 0, .int .i64 0], .int .i64 4]) (by simp [results, Tryd.results20, go_sem, r_3_c0, r_3_f0, r_3_c1, r_3_f1, r_3_z]) rfl ⟨rfl, ?_⟩
    (repeat (first | exact Below.refl _ _ | with_reducible assumption | refine bl_alloc ?_ _ | refine bl_set ?_ (by simp <;> omega) _ | refine bl_drew ?_ | refine bl_drewN ?_ _ | refine bl_step ?_ (by assumption)))
  · obtain rfl : b' = b := HP.out
    clear HP
    go_enter Tryd.func20, Tryd.ntmps20
    go_wp2_with fail
    (with_reducible refine (HC.out _).mono ?_); rintro e v1 ⟨rfl, hb1⟩
    have st1 := bl_step (bl_alloc (Below.refl _ _) _) hb1
    have bl1 := st1
    have Br_1 : Blk v1 (w.heap.size) 23 #[.int .i64 0, .int .i64 0] := (Blk.new _ _ _).below hb1
    have r_1_z : w.heap.size < v1.heap.size := Br_1.lt
    have r_1_c0 : v1.cell? ⟨w.heap.size, 0, none⟩ = some (.int .i64 0) := (Br_1.cell 0).trans rfl
    have r_1_f0 := Br_1.frozen 0
    have r_1_c1 : v1.cell? ⟨w.heap.size, 1, none⟩ = some (.int .i64 0) := (Br_1.cell 1).trans rfl
    have r_1_f1 := Br_1.frozen 1
    go_wp2_with fail
    (with_reducible refine (H1.out _ bl1).mono ?_); rintro e v2 ⟨p2, N2, rfl, ip2, hb2⟩
    have st2 := bl_step (Below.refl _ _) hb2
    have bl2 := bl_step bl1 st2
    clear r_1_z r_1_c0 r_1_f0 r_1_c1 r_1_f1
    have Br_2 := Br_1.below st2
    have r_2_z : w.heap.size < v2.heap.size := Br_2.lt
    have r_2_c0 : v2.cell? ⟨w.heap.size, 0, none⟩ = some (.int .i64 0) := (Br_2.cell 0).trans rfl
    have r_2_f0 := Br_2.frozen 0
    have r_2_c1 : v2.cell? ⟨w.heap.size, 1, none⟩ = some (.int .i64 0) := (Br_2.cell 1).trans rfl
    have r_2_f1 := Br_2.frozen 1
    go_wp2_with fail
    (with_reducible refine (H2.out _ bl2).mono ?_); rintro e v3 ⟨p3, N3, rfl, ip3, hb3⟩
    have st3 := bl_step (Below.refl _ _) hb3
    have bl3 := bl_step bl2 st3
    clear r_2_z r_2_c0 r_2_f0 r_2_c1 r_2_f1
    have Br_3 := Br_2.below st3
    have r_3_z : w.heap.size < v3.heap.size := Br_3.lt
    have r_3_c0 : v3.cell? ⟨w.heap.size, 0, none⟩ = some (.int .i64 0) := (Br_3.cell 0).trans rfl
    have r_3_f0 := Br_3.frozen 0
    have r_3_c1 : v3.cell? ⟨w.heap.size, 1, none⟩ = some (.int .i64 0) := (Br_3.cell 1).trans rfl
    have r_3_f1 := Br_3.frozen 1
    go_wp2
    refine bodyPost_ret (v := .tuple #[.agg #[.int .i64 0, .int .i64 0], .int .i64 4]) (by simp [results, Tryd.results20, go_sem, r_3_c0, r_3_f0, r_3_c1, r_3_f1, r_3_z]) rfl ⟨rfl, ?_⟩
    (repeat (first | exact Below.refl _ _ | with_reducible assumption | refine bl_alloc ?_ _ | refine bl_set ?_ (by simp <;> omega) _ | refine bl_drew ?_ | refine bl_drewN ?_ _ | refine bl_step ?_ (by assumption)))
set_option maxHeartbeats 1600000 in
theorem parse_ob (s : ByteArray) (w : World) (a b : ByteArray) (has : Bool) (b' : ByteArray) (hb' : b' = if has = true then b else ⟨#[49]⟩) (n d : Int)
    (HC : Hid (∀ w, Calls Tryd.prog 46 #[.string s, .string ⟨#[47]⟩] w fun e w' => e = .returned (.tuple #[.string a, .string b, .bool has]) ∧ Below w.heap.size w w'))
    (H1 : Hid (∀ w1, Below w.heap.size w w1 → Calls Tryd.prog 47 #[.string a, .int .i64 10, .int .i64 64] w1 fun e w' => e = .returned (.tuple #[.int .i64 n, .nilIface]) ∧ Below w1.heap.size w1 w'))
    (H2 : Hid (∀ w1, Below w.heap.size w w1 → Calls Tryd.prog 47 #[.string b', .int .i64 10, .int .i64 64] w1 fun e w' => ∃ v N, e = .returned (.tuple #[.int .i64 v, .iface 110 (.pointer (some ⟨N, 0, none⟩))]) ∧ InI v ∧ Below w1.heap.size w1 w')) :
    Calls Tryd.prog 20 #[.string s] w fun e w' => e = .returned (.tuple #[.agg #[.int .i64 0, .int .i64 0], .int .i64 4]) ∧ Below w.heap.size w w' := by
  have HP := Lib.hid hb'
  clear hb'
  cases has
  · obtain rfl : b' = ⟨#[49]⟩ := HP.out
    clear HP
    go_enter Tryd.func20, Tryd.ntmps20
    go_wp2_with fail
    (with_reducible refine (HC.out _).mono ?_); rintro e v1 ⟨rfl, hb1⟩
    have st1 := bl_step (bl_alloc (Below.refl _ _) _) hb1
    have bl1 := st1
    have Br_1 : Blk v1 (w.heap.size) 23 #[.int .i64 0, .int .i64 0] := (Blk.new _ _ _).below hb1
    have r_1_z : w.heap.size < v1.heap.size := Br_1.lt
    have r_1_c0 : v1.cell? ⟨w.heap.size, 0, none⟩ = some (.int .i64 0) := (Br_1.cell 0).trans rfl
    have r_1_f0 := Br_1.frozen 0
    have r_1_c1 : v1.cell? ⟨w.heap.size, 1, none⟩ = some (.int .i64 0) := (Br_1.cell 1).trans rfl
    have r_1_f1 := Br_1.frozen 1
    go_wp2_with fail
    (with_reducible refine (H1.out _ bl1).mono ?_); rintro e v2 ⟨rfl, hb2⟩
    have st2 := bl_step (Below.refl _ _) hb2
    have bl2 := bl_step bl1 st2
    clear r_1_z r_1_c0 r_1_f0 r_1_c1 r_1_f1
    have Br_2 := Br_1.below st2
    have r_2_z : w.heap.size < v2.heap.size := Br_2.lt
    have r_2_c0 : v2.cell? ⟨w.heap.size, 0, none⟩ = some (.int .i64 0) := (Br_2.cell 0).trans rfl
    have r_2_f0 := Br_2.frozen 0
    have r_2_c1 : v2.cell? ⟨w.heap.size, 1, none⟩ = some (.int .i64 0) := (Br_2.cell 1).trans rfl
    have r_2_f1 := Br_2.frozen 1
    go_wp2_with fail
    (with_reducible refine (H2.out _ bl2).mono ?_); rintro e v3 ⟨p3, N3, rfl, ip3, hb3⟩
    have st3 := bl_step (Below.refl _ _) hb3
    have bl3 := bl_step bl2 st3
    clear r_2_z r_2_c0 r_2_f0 r_2_c1 r_2_f1
    have Br_3 := Br_2.below st3
    have r_3_z : w.heap.size < v3.heap.size := Br_3.lt
    have r_3_c0 : v3.cell? ⟨w.heap.size, 0, none⟩ = some (.int .i64 0) := (Br_3.cell 0).trans rfl
    have r_3_f0 := Br_3.frozen 0
    have r_3_c1 : v3.cell? ⟨w.heap.size, 1, none⟩ = some (.int .i64 0) := (Br_3.cell 1).trans rfl
    have r_3_f1 := Br_3.frozen 1
    go_wp2
    refine bodyPost_ret (v := .tuple #[.agg #[.int .i64 0, .int .i64 0], .int .i64 4]) (by simp [results, Tryd.results20, go_sem, r_3_c0, r_3_f0, r_3_c1, r_3_f1, r_3_z]) rfl ⟨rfl, ?_⟩
    (repeat (first | exact Below.refl _ _ | with_reducible assumption | refine bl_alloc ?_ _ | refine bl_set ?_ (by simp <;> omega) _ | refine bl_drew ?_ | refine bl_drewN ?_ _ | refine bl_step ?_ (by assumption)))
  · obtain rfl : b' = b := HP.out
    clear HP
    go_enter Tryd.func20, Tryd.ntmps20
    go_wp2_with fail
    (with_reducible refine (HC.out _).mono ?_); rintro e v1 ⟨rfl, hb1⟩
    have st1 := bl_step (bl_alloc (Below.refl _ _) _) hb1
    have bl1 := st1
    have Br_1 : Blk v1 (w.heap.size) 23 #[.int .i64 0, .int .i64 0] := (Blk.new _ _ _).below hb1
    have r_1_z : w.heap.size < v1.heap.size := Br_1.lt
    have r_1_c0 : v1.cell? ⟨w.heap.size, 0, none⟩ = some (.int .i64 0) := (Br_1.cell 0).trans rfl
    have r_1_f0 := Br_1.frozen 0
    have r_1_c1 : v1.cell? ⟨w.heap.size, 1, none⟩ = some (.int .i64 0) := (Br_1.cell 1).trans rfl
    have r_1_f1 := Br_1.frozen 1
    go_wp2_with fail
    (with_reducible refine (H1.out _ bl1).mono ?_); rintro e v2 ⟨rfl, hb2⟩
    have st2 := bl_step (Below.refl _ _) hb2
    have bl2 := bl_step bl1 st2
    clear r_1_z r_1_c0 r_1_f0 r_1_c1 r_1_f1
    have Br_2 := Br_1.below st2
    have r_2_z : w.heap.size < v2.heap.size := Br_2.lt
    have r_2_c0 : v2.cell? ⟨w.heap.size, 0, none⟩ = some (.int .i64 0) := (Br_2.cell 0).trans rfl
    have r_2_f0 := Br_2.frozen 0
    have r_2_c1 : v2.cell? ⟨w.heap.size, 1, none⟩ = some (.int .i64 0) := (Br_2.cell 1).trans rfl
    have r_2_f1 := Br_2.frozen 1
    go_wp2_with fail
    (with_reducible refine (H2.out _ bl2).mono ?_); rintro e v3 ⟨p3, N3, rfl, ip3, hb3⟩
    have st3 := bl_step (Below.refl _ _) hb3
    have bl3 := bl_step bl2 st3
    clear r_2_z r_2_c0 r_2_f0 r_2_c1 r_2_f1
    have Br_3 := Br_2.below st3
    have r_3_z : w.heap.size < v3.heap.size := Br_3.lt
    have r_3_c0 : v3.cell? ⟨w.heap.size, 0, none⟩ = some (.int .i64 0) := (Br_3.cell 0).trans rfl
    have r_3_f0 := Br_3.frozen 0
    have r_3_c1 : v3.cell? ⟨w.heap.size, 1, none⟩ = some (.int .i64 0) := (Br_3.cell 1).trans rfl
    have r_3_f1 := Br_3.frozen 1
    go_wp2
    refine bodyPost_ret (v := .tuple #[.agg #[.int .i64 0, .int .i64 0], .int .i64 4]) (by simp [results, Tryd.results20, go_sem, r_3_c0, r_3_f0, r_3_c1, r_3_f1, r_3_z]) rfl ⟨rfl, ?_⟩
    (repeat (first | exact Below.refl _ _ | with_reducible assumption | refine bl_alloc ?_ _ | refine bl_set ?_ (by simp <;> omega) _ | refine bl_drew ?_ | refine bl_drewN ?_ _ | refine bl_step ?_ (by assumption)))
theorem parse_any (s : ByteArray) (w : World) (hs : s.size ≤ 140737488355328) (hw : RatW w) :
    Calls Tryd.prog 20 #[.string s] w fun e w' => e = .returned (.tuple #[.agg #[.int .i64 (sigR s.data.toList).1, .int .i64 (sigR s.data.toList).2.1], .int .i64 (sigR s.data.toList).2.2]) ∧ Below w.heap.size w w' := by
  obtain ⟨l1, l2⟩ := cut_len s.data.toList
  have hl : s.data.toList.length = s.size := rfl
  have HC := Lib.hid (fun w => cut_c s (by omega) w)
  have eb : (⟨(parseB s.data.toList).toArray⟩ : ByteArray) = if (Lib.cut s.data.toList [47]).2.2 = true then ⟨(Lib.cut s.data.toList [47]).2.1.toArray⟩ else ⟨#[49]⟩ := by
    unfold parseB; split <;> rfl
  have sa : (⟨(parseA s.data.toList).toArray⟩ : ByteArray).size ≤ 281474976710656 := by
    show (parseA s.data.toList).toArray.size ≤ _
    simp; omega
  have sb : (⟨(parseB s.data.toList).toArray⟩ : ByteArray).size ≤ 281474976710656 := by
    show (parseB s.data.toList).toArray.size ≤ _
    simp; omega
  have bad : ∀ (x : ByteArray), x.size ≤ 281474976710656 → (∀ v, Lib.parseIntB 64 x.data.toList ≠ .ok v) → Hid (∀ w1, Below w.heap.size w w1 → Calls Tryd.prog 47 #[.string x, .int .i64 10, .int .i64 64] w1 fun e w' => ∃ v N, e = .returned (.tuple #[.int .i64 v, .iface 110 (.pointer (some ⟨N, 0, none⟩))]) ∧ InI v ∧ Below w1.heap.size w1 w') :=
    fun x hx h => Lib.hid (fun w1 hb => int_bad x hx h w1 (hw.below hb))
  have good : ∀ (x : ByteArray) (v : Int), x.size ≤ 281474976710656 → Lib.parseIntB 64 x.data.toList = .ok v → Hid (∀ w1, Below w.heap.size w w1 → Calls Tryd.prog 47 #[.string x, .int .i64 10, .int .i64 64] w1 fun e w' => e = .returned (.tuple #[.int .i64 v, .nilIface]) ∧ Below w1.heap.size w1 w') :=
    fun x v hx h => Lib.hid (fun w1 hb => int_ok x hx v h w1)
  by_cases ha : ∃ n, Lib.parseIntB 64 (parseA s.data.toList) = .ok n
  · obtain ⟨n, ha⟩ := ha
    by_cases hb : ∃ d, Lib.parseIntB 64 (parseB s.data.toList) = .ok d
    · obtain ⟨d, hb⟩ := hb
      have hn := parse_in ha
      have hd := parse_in hb
      rw [sig_prog hn hd ha hb]
      by_cases e : textR n d = s.data.toList
      · rw [if_pos e]
        exact parse_yes s w _ _ _ _ eb n d hn hd true (by simp [bytes_toList, e]) hw HC (good _ n sa ha) (good _ d sb hb)
      · rw [if_neg e]
        exact parse_yes s w _ _ _ _ eb n d hn hd false (by simp [bytes_toList, e]) hw HC (good _ n sa ha) (good _ d sb hb)
    · have hb' : ∀ v, Lib.parseIntB 64 (parseB s.data.toList) ≠ .ok v := fun v h => hb ⟨v, h⟩
      rw [sig_bad2 hb']
      exact parse_ob s w _ _ _ _ eb n 0 HC (good _ n sa ha) (bad _ sb hb')
  · have ha' : ∀ v, Lib.parseIntB 64 (parseA s.data.toList) ≠ .ok v := fun v h => ha ⟨v, h⟩
    rw [sig_bad1 ha']
    by_cases hb : ∃ d, Lib.parseIntB 64 (parseB s.data.toList) = .ok d
    · obtain ⟨d, hb⟩ := hb
      exact parse_bo s w _ _ _ _ eb 0 d HC (bad _ sa ha') (good _ d sb hb)
    · exact parse_bb s w _ _ _ _ eb 0 0 HC (bad _ sa ha') (bad _ sb fun v h => hb ⟨v, h⟩)
theorem cut_hit {l : List UInt8} {i : Nat} (hi : i < l.length) (h47 : l[i] = 47) (hno : ∀ j (hj : j < l.length), j < i → l[j] ≠ 47) : parseA l = l.take i ∧ parseB l = l.drop (i + 1) := by
  have e : l = l.take i ++ 47 :: l.drop (i + 1) := by
    rw [← h47, ← List.drop_eq_getElem_cons hi, List.take_append_drop]
  have hc : Lib.cut l [47] = (l.take i, l.drop (i + 1), true) := by
    have := cut_at (p := l.take i) (q := l.drop (i + 1)) (fun c hc => by
      obtain ⟨j, hj, rfl⟩ := List.getElem_of_mem hc
      rw [List.length_take] at hj
      rw [List.getElem_take]
      exact hno j (by omega) (by omega))
    rw [← e] at this
    exact this
  unfold parseA parseB
  rw [hc]
  exact ⟨rfl, rfl⟩
theorem cut_miss {l : List UInt8} (hno : ∀ j (hj : j < l.length), l[j] ≠ 47) : parseA l = l ∧ parseB l = [49] := by
  have hc : Lib.cut l [47] = (l, [], false) := cut_none (fun c hc => by
    obtain ⟨j, hj, rfl⟩ := List.getElem_of_mem hc
    exact hno j hj)
  unfold parseA parseB
  rw [hc]
  exact ⟨rfl, rfl⟩
set_option maxHeartbeats 6400000 in
theorem bparse_any (s : ByteArray) (w : World) (hs : s.size ≤ 140737488355328) :
    Calls Tryd.prog 21 #[.string s] w fun e w' => e = .returned (.tuple #[.int .i64 (sigR s.data.toList).1, .int .i64 (sigR s.data.toList).2.1, .int .i64 (sigR s.data.toList).2.2]) ∧ Below w.heap.size w w' := by
  have HS := Lib.hid (sig_ref (l := s.data.toList))
  have HNa := num_in (parseA s.data.toList)
  have HNd := num_in (parseB s.data.toList)
  have HT := fun w => btext_any (numN (parseA s.data.toList)) (numN (parseB s.data.toList)) w HNa HNd
  have HN : ∀ (x : ByteArray) (l : List UInt8), x.data.toList = l → x.size ≤ 140737488355328 → Hid (∀ w, Calls Tryd.prog 48 #[.string x] w fun e w' => e = .returned (.tuple #[.int .i64 (numN l), .bool (numB l)]) ∧ Below w.heap.size w w') := by
    intro x l e hx
    subst e
    exact Lib.hid fun w => number_any x w (by omega)
  have hL : s.data.toList.length = s.size := rfl
  go_enter Tryd.func21, Tryd.ntmps21
  go_wp2_with fail
  go_loop [5, 6, 7] (fun va vb vi => ∃ i : Nat, va = .string s ∧ vb = .string ⟨#[49]⟩ ∧ vi = .int .i64 i ∧ i ≤ s.size ∧ Hid (∀ j (hj : j < s.data.toList.length), j < i → s.data.toList[j] ≠ 47)) (fun _ _ vi => s.size - (intOf vi).toNat)
  case atStart => exact ⟨0, rfl, rfl, rfl, by omega, Lib.hid fun j _ h => absurd h (by omega)⟩
  case round =>
    obtain ⟨i, rfl, rfl, rfl, hi, HJ⟩ := hrel
    by_cases hlt : i < s.size
    · have hg : s.data.toList[i] = s[i] := rfl
      by_cases h47 : (s[i].toNat : Int) = 47
      · have h47' : ((s[i].toNat : Int) == 47) = true := by simpa using h47
        obtain ⟨ca, cb⟩ := cut_hit (l := s.data.toList) (i := i) hlt (UInt8.toNat_inj.1 (by
          have h45 : (47 : UInt8).toNat = 47 := rfl
          rw [h45]; show s[i].toNat = 47; omega)) HJ.out
        have Ha := HN (s.extract 0 i) (parseA s.data.toList) (by rw [ca]; simp [ByteArray.data_extract]) (by simp; omega)
        have Hb := HN (s.extract (i + 1) s.size) (parseB s.data.toList) (by rw [cb]; exact Lib.extract_to_end _ _) (by simp; omega)
        clear ca cb h47
        generalize numN (parseA s.data.toList) = n at Ha HT HS
        generalize numN (parseB s.data.toList) = d at Hb HT HS
        generalize numB (parseA s.data.toList) = x at Ha HS
        generalize numB (parseB s.data.toList) = y at Hb HS
        have HT := Lib.hid HT
        by_cases hxy : (x && y) = true ∧ textR n d = s.data.toList
        · have HR : Hid (sigR s.data.toList = (n, d, 0)) := Lib.hid (by rw [HS.out, if_pos hxy])
          obtain ⟨h1, h2⟩ := hxy
          simp only [Bool.and_eq_true] at h1
          obtain ⟨rfl, rfl⟩ := h1
          have hsame : (textR n d == s.toList) = true := by rw [bytes_toList, h2]; simp
          clear h2 HS
          go_wp2_with fail
          (with_reducible refine (Ha.out _).mono ?_); rintro e v1 ⟨rfl, hb1⟩
          have st1 := bl_step (Below.refl _ _) hb1
          have bl1 := st1
          go_wp2_with fail
          (with_reducible refine (Hb.out _).mono ?_); rintro e v2 ⟨rfl, hb2⟩
          have st2 := bl_step (Below.refl _ _) hb2
          have bl2 := bl_step bl1 st2
          go_wp2_with fail
          (with_reducible refine (HT.out _).mono ?_); rintro e v3 ⟨rfl, hb3⟩
          have st3 := bl_step (Below.refl _ _) hb3
          have bl3 := bl_step bl2 st3
          go_wp2
          go_ret3
          exact ⟨by rw [HR.out]; rfl, bl3⟩
        · have HR : Hid (sigR s.data.toList = (0, 0, 4)) := Lib.hid (by rw [HS.out, if_neg hxy])
          clear HS
          cases x
          · clear hxy
            go_wp2_with fail
            (with_reducible refine (Ha.out _).mono ?_); rintro e v1 ⟨rfl, hb1⟩
            have st1 := bl_step (Below.refl _ _) hb1
            have bl1 := st1
            go_wp2_with fail
            (with_reducible refine (Hb.out _).mono ?_); rintro e v2 ⟨rfl, hb2⟩
            have st2 := bl_step (Below.refl _ _) hb2
            have bl2 := bl_step bl1 st2
            go_wp2_with fail
            (with_reducible refine (HT.out _).mono ?_); rintro e v3 ⟨rfl, hb3⟩
            have st3 := bl_step (Below.refl _ _) hb3
            have bl3 := bl_step bl2 st3
            go_wp2
            go_ret3
            exact ⟨by rw [HR.out]; rfl, bl3⟩
          · cases y
            · clear hxy
              go_wp2_with fail
              (with_reducible refine (Ha.out _).mono ?_); rintro e v1 ⟨rfl, hb1⟩
              have st1 := bl_step (Below.refl _ _) hb1
              have bl1 := st1
              go_wp2_with fail
              (with_reducible refine (Hb.out _).mono ?_); rintro e v2 ⟨rfl, hb2⟩
              have st2 := bl_step (Below.refl _ _) hb2
              have bl2 := bl_step bl1 st2
              go_wp2_with fail
              (with_reducible refine (HT.out _).mono ?_); rintro e v3 ⟨rfl, hb3⟩
              have st3 := bl_step (Below.refl _ _) hb3
              have bl3 := bl_step bl2 st3
              go_wp2
              go_ret3
              exact ⟨by rw [HR.out]; rfl, bl3⟩
            · have hsame : (textR n d == s.toList) = false := by
                rw [beq_eq_false_iff_ne, bytes_toList]
                exact fun h => hxy ⟨rfl, h⟩
              clear hxy
              go_wp2_with fail
              (with_reducible refine (Ha.out _).mono ?_); rintro e v1 ⟨rfl, hb1⟩
              have st1 := bl_step (Below.refl _ _) hb1
              have bl1 := st1
              go_wp2_with fail
              (with_reducible refine (Hb.out _).mono ?_); rintro e v2 ⟨rfl, hb2⟩
              have st2 := bl_step (Below.refl _ _) hb2
              have bl2 := bl_step bl1 st2
              go_wp2_with fail
              (with_reducible refine (HT.out _).mono ?_); rintro e v3 ⟨rfl, hb3⟩
              have st3 := bl_step (Below.refl _ _) hb3
              have bl3 := bl_step bl2 st3
              go_wp2
              go_ret3
              exact ⟨by rw [HR.out]; rfl, bl3⟩
      · have h47' : ((s[i].toNat : Int) == 47) = false := by simpa using h47
        have hne : s[i] ≠ 47 := fun h => h47 (by rw [h]; rfl)
        clear h47
        have HK : Hid (∀ j (hj : j < s.data.toList.length), j < i + 1 → s.data.toList[j] ≠ 47) := Lib.hid (fun j hj h => by
          by_cases e : j = i
          · subst e; exact hne
          · exact HJ.out j hj (by omega))
        clear hne
        go_wp2_with fail
        go_round
        case rel => exact ⟨i + 1, rfl, rfl, by go_num, by omega, HK⟩
        case measure => simp only [intOf]; omega
    · obtain rfl : i = s.size := by omega
      obtain ⟨ca, cb⟩ := cut_miss (l := s.data.toList) (fun j hj => HJ.out j hj hj)
      have Ha := HN s (parseA s.data.toList) ca.symm hs
      have Hb := HN ⟨#[49]⟩ (parseB s.data.toList) cb.symm (by decide)
      clear ca cb
      generalize numN (parseA s.data.toList) = n at Ha HT HS
      generalize numN (parseB s.data.toList) = d at Hb HT HS
      generalize numB (parseA s.data.toList) = x at Ha HS
      generalize numB (parseB s.data.toList) = y at Hb HS
      have HT := Lib.hid HT
      by_cases hxy : (x && y) = true ∧ textR n d = s.data.toList
      · have HR : Hid (sigR s.data.toList = (n, d, 0)) := Lib.hid (by rw [HS.out, if_pos hxy])
        obtain ⟨h1, h2⟩ := hxy
        simp only [Bool.and_eq_true] at h1
        obtain ⟨rfl, rfl⟩ := h1
        have hsame : (textR n d == s.toList) = true := by rw [bytes_toList, h2]; simp
        clear h2 HS
        go_wp2_with fail
        (with_reducible refine (Ha.out _).mono ?_); rintro e v1 ⟨rfl, hb1⟩
        have st1 := bl_step (Below.refl _ _) hb1
        have bl1 := st1
        go_wp2_with fail
        (with_reducible refine (Hb.out _).mono ?_); rintro e v2 ⟨rfl, hb2⟩
        have st2 := bl_step (Below.refl _ _) hb2
        have bl2 := bl_step bl1 st2
        go_wp2_with fail
        (with_reducible refine (HT.out _).mono ?_); rintro e v3 ⟨rfl, hb3⟩
        have st3 := bl_step (Below.refl _ _) hb3
        have bl3 := bl_step bl2 st3
        go_wp2
        go_ret3
        exact ⟨by rw [HR.out]; rfl, bl3⟩
      · have HR : Hid (sigR s.data.toList = (0, 0, 4)) := Lib.hid (by rw [HS.out, if_neg hxy])
        clear HS
        cases x
        · clear hxy
          go_wp2_with fail
          (with_reducible refine (Ha.out _).mono ?_); rintro e v1 ⟨rfl, hb1⟩
          have st1 := bl_step (Below.refl _ _) hb1
          have bl1 := st1
          go_wp2_with fail
          (with_reducible refine (Hb.out _).mono ?_); rintro e v2 ⟨rfl, hb2⟩
          have st2 := bl_step (Below.refl _ _) hb2
          have bl2 := bl_step bl1 st2
          go_wp2_with fail
          (with_reducible refine (HT.out _).mono ?_); rintro e v3 ⟨rfl, hb3⟩
          have st3 := bl_step (Below.refl _ _) hb3
          have bl3 := bl_step bl2 st3
          go_wp2
          go_ret3
          exact ⟨by rw [HR.out]; rfl, bl3⟩
        · cases y
          · clear hxy
            go_wp2_with fail
            (with_reducible refine (Ha.out _).mono ?_); rintro e v1 ⟨rfl, hb1⟩
            have st1 := bl_step (Below.refl _ _) hb1
            have bl1 := st1
            go_wp2_with fail
            (with_reducible refine (Hb.out _).mono ?_); rintro e v2 ⟨rfl, hb2⟩
            have st2 := bl_step (Below.refl _ _) hb2
            have bl2 := bl_step bl1 st2
            go_wp2_with fail
            (with_reducible refine (HT.out _).mono ?_); rintro e v3 ⟨rfl, hb3⟩
            have st3 := bl_step (Below.refl _ _) hb3
            have bl3 := bl_step bl2 st3
            go_wp2
            go_ret3
            exact ⟨by rw [HR.out]; rfl, bl3⟩
          · have hsame : (textR n d == s.toList) = false := by
              rw [beq_eq_false_iff_ne, bytes_toList]
              exact fun h => hxy ⟨rfl, h⟩
            clear hxy
            go_wp2_with fail
            (with_reducible refine (Ha.out _).mono ?_); rintro e v1 ⟨rfl, hb1⟩
            have st1 := bl_step (Below.refl _ _) hb1
            have bl1 := st1
            go_wp2_with fail
            (with_reducible refine (Hb.out _).mono ?_); rintro e v2 ⟨rfl, hb2⟩
            have st2 := bl_step (Below.refl _ _) hb2
            have bl2 := bl_step bl1 st2
            go_wp2_with fail
            (with_reducible refine (HT.out _).mono ?_); rintro e v3 ⟨rfl, hb3⟩
            have st3 := bl_step (Below.refl _ _) hb3
            have bl3 := bl_step bl2 st3
            go_wp2
            go_ret3
            exact ⟨by rw [HR.out]; rfl, bl3⟩
end Go.Proofs.YtkdklmkcanjjfaaDoor
