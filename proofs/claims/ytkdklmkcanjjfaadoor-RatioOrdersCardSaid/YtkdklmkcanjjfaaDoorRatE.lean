/- The walks of ratio, part E: Parse. -/
import Derived.Test.YtkdklmkcanjjfaaDoorRatD
import Derived.Shelf.RegionOpenPlain
import Derived.Laws.Strings3
namespace Go.Proofs.YtkdklmkcanjjfaaDoor
open Go.RowKit
set_option linter.unusedVariables false
set_option linter.unusedSimpArgs false
set_option maxRecDepth 100000

theorem bl_bytes (w : World) (e : TypeId) (s : ByteArray) : Below w.heap.size w (Lib.bytesWorld w e s) := ⟨rfl, rfl, rfl, by rw [Lib.bytesWorld_size]; omega, fun k hk => Lib.bytesWorld_at_old w e s k hk⟩

theorem index_c (s : ByteArray) (w : World) : Calls Tryd.prog 84 #[.string s, .string ⟨#[47]⟩] w fun e w' => e = .returned (.int .i64 (Lib.indexB s ⟨#[47]⟩)) ∧ w' = w := by
  have h : Lib.indexB s ⟨#[47]⟩ = Lib.indexByte s.data.toList 47 := Lib.index_one _ _
  rw [h]
  exact Tryd.stringslite_Index_one s 47 w
set_option maxHeartbeats 1600000 in
theorem scut_c (s : ByteArray) (hs : s.size ≤ 9223372036854775807) (w : World) : Calls Tryd.prog 69 #[.string s, .string ⟨#[47]⟩] w fun e w' => e = .returned (.tuple #[.string ⟨(Lib.cut s.data.toList [47]).1.toArray⟩, .string ⟨(Lib.cut s.data.toList [47]).2.1.toArray⟩, .bool (Lib.cut s.data.toList [47]).2.2]) ∧ Below w.heap.size w w' := by
  rcases Lib.indexB_cases s ⟨#[47]⟩ with hix | ⟨i, hix, hroom⟩
  · obtain ⟨e1, e2, e3⟩ := Lib.cutB_miss s ⟨#[47]⟩ hix
    have e1 : (⟨(Lib.cut s.data.toList [47]).1.toArray⟩ : ByteArray) = s := e1
    have e2 : (⟨(Lib.cut s.data.toList [47]).2.1.toArray⟩ : ByteArray) = ByteArray.empty := e2
    have e3 : (Lib.cut s.data.toList [47]).2.2 = false := e3
    rw [e1, e2, e3]
    clear e1 e2 e3
    have HI := fun w => index_c s w
    rw [hix] at HI
    have HI := Lib.hid HI
    clear hix
    go_enter Tryd.func69, Tryd.ntmps69
    go_wp2_with fail
    refine (HI.out _).mono ?_; rintro e w1 ⟨rfl, rfl⟩
    go_wp2
    go_ret3
    exact ⟨rfl, Below.refl _ _⟩
  · obtain ⟨e1, e2, e3⟩ := Lib.cutB_hit s ⟨#[47]⟩ i hix
    have e1 : (⟨(Lib.cut s.data.toList [47]).1.toArray⟩ : ByteArray) = s.extract 0 i := e1
    have e2 : (⟨(Lib.cut s.data.toList [47]).2.1.toArray⟩ : ByteArray) = s.extract (i + 1) s.size := e2
    have e3 : (Lib.cut s.data.toList [47]).2.2 = true := e3
    rw [e1, e2, e3]
    have hroom : i + 1 ≤ s.size := hroom
    have c1 : (0 : Int) ≤ ↑i := by omega
    have c2 : (↑i : Int) ≤ ↑s.size := by omega
    have c3 : (0 : Int) ≤ ↑i + 1 := by omega
    have c4 : (↑i + 1 : Int) ≤ ↑s.size := by omega
    have c5 : IntKind.i64.wrap ((i : Int) + 1) = (i : Int) + 1 := by rw [IntKind.wrap_i64]; omega
    have mixed : Tryd.prog.follows Departure.mixedOrders = true := by kernel_rfl
    clear e1 e2 e3
    have HI := fun w => index_c s w
    rw [hix] at HI
    have HI := Lib.hid HI
    clear hix
    go_enter Tryd.func69, Tryd.ntmps69
    go_wp2_with fail
    refine (HI.out _).mono ?_; rintro e w1 ⟨rfl, rfl⟩
    go_wp2_with fail
    go_region_o
    go_wp2
    go_ret3
    exact ⟨rfl, bl_drew (Below.refl _ _)⟩
theorem cut_c (s : ByteArray) (hs : s.size ≤ 9223372036854775807) (w : World) : Calls Tryd.prog 46 #[.string s, .string ⟨#[47]⟩] w fun e w' => e = .returned (.tuple #[.string ⟨(Lib.cut s.data.toList [47]).1.toArray⟩, .string ⟨(Lib.cut s.data.toList [47]).2.1.toArray⟩, .bool (Lib.cut s.data.toList [47]).2.2]) ∧ Below w.heap.size w w' := by
  have HS := Lib.hid (fun w => scut_c s hs w)
  generalize (Lib.cut s.data.toList [47]) = z at HS ⊢
  obtain ⟨a, b, f⟩ := z
  go_enter Tryd.func46, Tryd.ntmps46
  go_wp2_with fail
  refine (HS.out _).mono ?_; rintro e w1 ⟨rfl, hb1⟩
  go_wp2
  go_ret3
  exact ⟨rfl, hb1⟩

/-- What ParseInt hands back at a decimal numeral; at anything else. -/
theorem int_ok (s : ByteArray) (hs : s.size ≤ 281474976710656) (v : Int) (h : Lib.parseIntB 64 s.data.toList = .ok v) (w : World) :
    Calls Tryd.prog 47 #[.string s, .int .i64 10, .int .i64 64] w fun e w' => e = .returned (.tuple #[.int .i64 v, .nilIface]) ∧ Below w.heap.size w w' :=
  (Tryd.strconv_ParseInt_10_at64_ok s (by omega) v h w).mono fun e w' ⟨he, hw⟩ => ⟨he, by
    rcases hw with rfl | ⟨t, rfl⟩
    · exact Below.refl _ _
    · exact bl_bytes _ _ _⟩
theorem int_bad (s : ByteArray) (hs : s.size ≤ 281474976710656) (h : ∀ v, Lib.parseIntB 64 s.data.toList ≠ .ok v) (w : World) (hw : RatW w) :
    Calls Tryd.prog 47 #[.string s, .int .i64 10, .int .i64 64] w fun e w' => ∃ v N, e = .returned (.tuple #[.int .i64 v, .iface 110 (.pointer (some ⟨N, 0, none⟩))]) ∧ InI v ∧ Below w.heap.size w w' := by
  obtain ⟨t1, p1, e1⟩ := hw.syn
  obtain ⟨t2, p2, e2⟩ := hw.rng
  rcases hc : Lib.parseIntB 64 s.data.toList with v | _ | _
  · exact absurd hc (h v)
  · exact (Any.strconv_ParseInt_10_at64_syntax_var Tryd.laysC174 s hs hc t1 p1 w e1).mono fun e w' ⟨N, he, _, _, hb⟩ => ⟨0, N, he, ⟨by omega, by omega⟩, hb⟩
  · exact (Tryd.strconv_ParseInt_10_at64_range_var s hs hc t2 p2 w e2).mono fun e w' ⟨N, he, _, _, hb⟩ => ⟨_, N, he, by unfold Lib.intSat InI; split <;> decide, hb⟩
/-- The ratio that a text spells. -/
def parseA (l : List UInt8) : List UInt8 := (Lib.cut l [47]).1
def parseB (l : List UInt8) : List UInt8 := if (Lib.cut l [47]).2.2 = true then (Lib.cut l [47]).2.1 else [49]
set_option maxHeartbeats 1600000 in
theorem parse_yes (s : ByteArray) (w : World) (a b : ByteArray) (has : Bool) (b' : ByteArray) (hb' : b' = if has = true then b else ⟨#[49]⟩) (n d : Int) (hn : InI n) (hd : InI d) (same : Bool) (hsame : ((⟨(textR n d).toArray⟩ : ByteArray).toList == s.toList) = same) (hw : RatW w)
    (HC : Hid (∀ w, Calls Tryd.prog 46 #[.string s, .string ⟨#[47]⟩] w fun e w' => e = .returned (.tuple #[.string a, .string b, .bool has]) ∧ Below w.heap.size w w'))
    (H1 : Hid (∀ w1, Below w.heap.size w w1 → Calls Tryd.prog 47 #[.string a, .int .i64 10, .int .i64 64] w1 fun e w' => e = .returned (.tuple #[.int .i64 n, .nilIface]) ∧ Below w1.heap.size w1 w'))
    (H2 : Hid (∀ w1, Below w.heap.size w w1 → Calls Tryd.prog 47 #[.string b', .int .i64 10, .int .i64 64] w1 fun e w' => e = .returned (.tuple #[.int .i64 d, .nilIface]) ∧ Below w1.heap.size w1 w')) :
    Calls Tryd.prog 20 #[.string s] w fun e w' => e = .returned (.tuple #[.agg #[.int .i64 (if same = true then n else 0), .int .i64 (if same = true then d else 0)], .int .i64 (if same = true then 0 else 4)]) ∧ Below w.heap.size w w' := by
  have HT := Lib.hid (fun w' (hb : Below w.heap.size w w') => text_any n d w' hn hd (hw.below hb))
  generalize (⟨(textR n d).toArray⟩ : ByteArray) = x at HT hsame
  have HP := Lib.hid hb'
  clear hb'
  cases has <;> cases same
  · obtain rfl := HP.out
    clear HP
    go_enter Tryd.func20, Tryd.ntmps20
    go_wp2_with fail
    refine (HC.out _).mono ?_; rintro e v1 ⟨rfl, hb1⟩
    have st1 := bl_step (bl_alloc (Below.refl _ _) _) hb1
    have bl1 := st1
    have Br_1 : Blk v1 (w.heap.size) 23 #[.int .i64 0, .int .i64 0] := (Blk.new _ _ _).below hb1
    have r_1_z : w.heap.size < v1.heap.size := Br_1.lt
    have r_1_c0 : v1.cell? ⟨w.heap.size, 0, none⟩ = some (.int .i64 0) := (Br_1.cell 0).trans rfl
    have r_1_f0 := Br_1.frozen 0
    have r_1_c1 : v1.cell? ⟨w.heap.size, 1, none⟩ = some (.int .i64 0) := (Br_1.cell 1).trans rfl
    have r_1_f1 := Br_1.frozen 1
    go_wp2_with fail
    refine (H1.out _ bl1).mono ?_; rintro e v2 ⟨rfl, hb2⟩
    have st2 := bl_step (Below.refl _ _) hb2
    have bl2 := bl_step bl1 st2
    clear r_1_z r_1_c0 r_1_f0 r_1_c1 r_1_f1
    have Br_2 := Br_1.below st2
    have r_2_z : w.heap.size < v2.heap.size := Br_2.lt
    have r_2_c0 : v2.cell? ⟨w.heap.size, 0, none⟩ = some (.int .i64 0) := (Br_2.cell 0).trans rfl
    have r_2_f0 := Br_2.frozen 0
    have r_2_c1 : v2.cell? ⟨w.heap.size, 1, none⟩ = some (.int .i64 0) := (Br_2.cell 1).trans rfl
    have r_2_f1 := Br_2.frozen 1
    go_wp2_with fail
    refine (H2.out _ bl2).mono ?_; rintro e v3 ⟨rfl, hb3⟩
    have st3 := bl_step (Below.refl _ _) hb3
    have bl3 := bl_step bl2 st3
    clear r_2_z r_2_c0 r_2_f0 r_2_c1 r_2_f1
    have Br_3 := Br_2.below st3
    have r_3_z : w.heap.size < v3.heap.size := Br_3.lt
    have r_3_c0 : v3.cell? ⟨w.heap.size, 0, none⟩ = some (.int .i64 0) := (Br_3.cell 0).trans rfl
    have r_3_f0 := Br_3.frozen 0
    have r_3_c1 : v3.cell? ⟨w.heap.size, 1, none⟩ = some (.int .i64 0) := (Br_3.cell 1).trans rfl
    have r_3_f1 := Br_3.frozen 1
    go_wp2_with fail
    refine (HT.out _ (bl_alloc bl3 _)).mono ?_; rintro e v4 ⟨rfl, hb4⟩
    have st4 := bl_step (bl_alloc (Below.refl _ _) _) hb4
    have bl4 := bl_step bl3 st4
    have Bq_4 : Blk v4 (v3.heap.size) 23 #[.int .i64 n, .int .i64 d] := (Blk.new _ _ _).below hb4
    clear r_3_z r_3_c0 r_3_f0 r_3_c1 r_3_f1
    have Br_4 := Br_3.below st4
    have r_4_z : w.heap.size < v4.heap.size := Br_4.lt
    have r_4_c0 : v4.cell? ⟨w.heap.size, 0, none⟩ = some (.int .i64 0) := (Br_4.cell 0).trans rfl
    have r_4_f0 := Br_4.frozen 0
    have r_4_c1 : v4.cell? ⟨w.heap.size, 1, none⟩ = some (.int .i64 0) := (Br_4.cell 1).trans rfl
    have r_4_f1 := Br_4.frozen 1
    have q_4_z : v3.heap.size < v4.heap.size := Bq_4.lt
    have q_4_c0 : v4.cell? ⟨v3.heap.size, 0, none⟩ = some (.int .i64 n) := (Bq_4.cell 0).trans rfl
    have q_4_f0 := Bq_4.frozen 0
    have q_4_c1 : v4.cell? ⟨v3.heap.size, 1, none⟩ = some (.int .i64 d) := (Bq_4.cell 1).trans rfl
    have q_4_f1 := Bq_4.frozen 1
    go_wp2
    refine bodyPost_ret (v := .tuple #[.agg #[.int .i64 0, .int .i64 0], .int .i64 4]) (by simp [results, Tryd.results20, go_sem, r_4_c0, r_4_f0, r_4_c1, r_4_f1]) rfl ⟨rfl, ?_⟩
    (repeat (first | exact Below.refl _ _ | with_reducible assumption | refine bl_alloc ?_ _ | refine bl_set ?_ (by simp <;> omega) _ | refine bl_drew ?_ | refine bl_drewN ?_ _ | refine bl_step ?_ (by assumption)))
  · obtain rfl := HP.out
    clear HP
    go_enter Tryd.func20, Tryd.ntmps20
    go_wp2_with fail
    refine (HC.out _).mono ?_; rintro e v1 ⟨rfl, hb1⟩
    have st1 := bl_step (bl_alloc (Below.refl _ _) _) hb1
    have bl1 := st1
    have Br_1 : Blk v1 (w.heap.size) 23 #[.int .i64 0, .int .i64 0] := (Blk.new _ _ _).below hb1
    have r_1_z : w.heap.size < v1.heap.size := Br_1.lt
    have r_1_c0 : v1.cell? ⟨w.heap.size, 0, none⟩ = some (.int .i64 0) := (Br_1.cell 0).trans rfl
    have r_1_f0 := Br_1.frozen 0
    have r_1_c1 : v1.cell? ⟨w.heap.size, 1, none⟩ = some (.int .i64 0) := (Br_1.cell 1).trans rfl
    have r_1_f1 := Br_1.frozen 1
    go_wp2_with fail
    refine (H1.out _ bl1).mono ?_; rintro e v2 ⟨rfl, hb2⟩
    have st2 := bl_step (Below.refl _ _) hb2
    have bl2 := bl_step bl1 st2
    clear r_1_z r_1_c0 r_1_f0 r_1_c1 r_1_f1
    have Br_2 := Br_1.below st2
    have r_2_z : w.heap.size < v2.heap.size := Br_2.lt
    have r_2_c0 : v2.cell? ⟨w.heap.size, 0, none⟩ = some (.int .i64 0) := (Br_2.cell 0).trans rfl
    have r_2_f0 := Br_2.frozen 0
    have r_2_c1 : v2.cell? ⟨w.heap.size, 1, none⟩ = some (.int .i64 0) := (Br_2.cell 1).trans rfl
    have r_2_f1 := Br_2.frozen 1
    go_wp2_with fail
    refine (H2.out _ bl2).mono ?_; rintro e v3 ⟨rfl, hb3⟩
    have st3 := bl_step (Below.refl _ _) hb3
    have bl3 := bl_step bl2 st3
    clear r_2_z r_2_c0 r_2_f0 r_2_c1 r_2_f1
    have Br_3 := Br_2.below st3
    have r_3_z : w.heap.size < v3.heap.size := Br_3.lt
    have r_3_c0 : v3.cell? ⟨w.heap.size, 0, none⟩ = some (.int .i64 0) := (Br_3.cell 0).trans rfl
    have r_3_f0 := Br_3.frozen 0
    have r_3_c1 : v3.cell? ⟨w.heap.size, 1, none⟩ = some (.int .i64 0) := (Br_3.cell 1).trans rfl
    have r_3_f1 := Br_3.frozen 1
    go_wp2_with fail
    refine (HT.out _ (bl_alloc bl3 _)).mono ?_; rintro e v4 ⟨rfl, hb4⟩
    have st4 := bl_step (bl_alloc (Below.refl _ _) _) hb4
    have bl4 := bl_step bl3 st4
    have Bq_4 : Blk v4 (v3.heap.size) 23 #[.int .i64 n, .int .i64 d] := (Blk.new _ _ _).below hb4
    clear r_3_z r_3_c0 r_3_f0 r_3_c1 r_3_f1
    have Br_4 := Br_3.below st4
    have r_4_z : w.heap.size < v4.heap.size := Br_4.lt
    have r_4_c0 : v4.cell? ⟨w.heap.size, 0, none⟩ = some (.int .i64 0) := (Br_4.cell 0).trans rfl
    have r_4_f0 := Br_4.frozen 0
    have r_4_c1 : v4.cell? ⟨w.heap.size, 1, none⟩ = some (.int .i64 0) := (Br_4.cell 1).trans rfl
    have r_4_f1 := Br_4.frozen 1
    have q_4_z : v3.heap.size < v4.heap.size := Bq_4.lt
    have q_4_c0 : v4.cell? ⟨v3.heap.size, 0, none⟩ = some (.int .i64 n) := (Bq_4.cell 0).trans rfl
    have q_4_f0 := Bq_4.frozen 0
    have q_4_c1 : v4.cell? ⟨v3.heap.size, 1, none⟩ = some (.int .i64 d) := (Bq_4.cell 1).trans rfl
    have q_4_f1 := Bq_4.frozen 1
    go_wp2
    refine bodyPost_ret (v := .tuple #[.agg #[.int .i64 n, .int .i64 d], .int .i64 0]) (by simp [results, Tryd.results20, go_sem, r_4_c0, r_4_f0, r_4_c1, r_4_f1]) rfl ⟨rfl, ?_⟩
    (repeat (first | exact Below.refl _ _ | with_reducible assumption | refine bl_alloc ?_ _ | refine bl_set ?_ (by simp <;> omega) _ | refine bl_drew ?_ | refine bl_drewN ?_ _ | refine bl_step ?_ (by assumption)))
  · obtain rfl := HP.out
    clear HP
    go_enter Tryd.func20, Tryd.ntmps20
    go_wp2_with fail
    refine (HC.out _).mono ?_; rintro e v1 ⟨rfl, hb1⟩
    have st1 := bl_step (bl_alloc (Below.refl _ _) _) hb1
    have bl1 := st1
    have Br_1 : Blk v1 (w.heap.size) 23 #[.int .i64 0, .int .i64 0] := (Blk.new _ _ _).below hb1
    have r_1_z : w.heap.size < v1.heap.size := Br_1.lt
    have r_1_c0 : v1.cell? ⟨w.heap.size, 0, none⟩ = some (.int .i64 0) := (Br_1.cell 0).trans rfl
    have r_1_f0 := Br_1.frozen 0
    have r_1_c1 : v1.cell? ⟨w.heap.size, 1, none⟩ = some (.int .i64 0) := (Br_1.cell 1).trans rfl
    have r_1_f1 := Br_1.frozen 1
    go_wp2_with fail
    refine (H1.out _ bl1).mono ?_; rintro e v2 ⟨rfl, hb2⟩
    have st2 := bl_step (Below.refl _ _) hb2
    have bl2 := bl_step bl1 st2
    clear r_1_z r_1_c0 r_1_f0 r_1_c1 r_1_f1
    have Br_2 := Br_1.below st2
    have r_2_z : w.heap.size < v2.heap.size := Br_2.lt
    have r_2_c0 : v2.cell? ⟨w.heap.size, 0, none⟩ = some (.int .i64 0) := (Br_2.cell 0).trans rfl
    have r_2_f0 := Br_2.frozen 0
    have r_2_c1 : v2.cell? ⟨w.heap.size, 1, none⟩ = some (.int .i64 0) := (Br_2.cell 1).trans rfl
    have r_2_f1 := Br_2.frozen 1
    go_wp2_with fail
    refine (H2.out _ bl2).mono ?_; rintro e v3 ⟨rfl, hb3⟩
    have st3 := bl_step (Below.refl _ _) hb3
    have bl3 := bl_step bl2 st3
    clear r_2_z r_2_c0 r_2_f0 r_2_c1 r_2_f1
    have Br_3 := Br_2.below st3
    have r_3_z : w.heap.size < v3.heap.size := Br_3.lt
    have r_3_c0 : v3.cell? ⟨w.heap.size, 0, none⟩ = some (.int .i64 0) := (Br_3.cell 0).trans rfl
    have r_3_f0 := Br_3.frozen 0
    have r_3_c1 : v3.cell? ⟨w.heap.size, 1, none⟩ = some (.int .i64 0) := (Br_3.cell 1).trans rfl
    have r_3_f1 := Br_3.frozen 1
    go_wp2_with fail
    refine (HT.out _ (bl_alloc bl3 _)).mono ?_; rintro e v4 ⟨rfl, hb4⟩
    have st4 := bl_step (bl_alloc (Below.refl _ _) _) hb4
    have bl4 := bl_step bl3 st4
    have Bq_4 : Blk v4 (v3.heap.size) 23 #[.int .i64 n, .int .i64 d] := (Blk.new _ _ _).below hb4
    clear r_3_z r_3_c0 r_3_f0 r_3_c1 r_3_f1
    have Br_4 := Br_3.below st4
    have r_4_z : w.heap.size < v4.heap.size := Br_4.lt
    have r_4_c0 : v4.cell? ⟨w.heap.size, 0, none⟩ = some (.int .i64 0) := (Br_4.cell 0).trans rfl
    have r_4_f0 := Br_4.frozen 0
    have r_4_c1 : v4.cell? ⟨w.heap.size, 1, none⟩ = some (.int .i64 0) := (Br_4.cell 1).trans rfl
    have r_4_f1 := Br_4.frozen 1
    have q_4_z : v3.heap.size < v4.heap.size := Bq_4.lt
    have q_4_c0 : v4.cell? ⟨v3.heap.size, 0, none⟩ = some (.int .i64 n) := (Bq_4.cell 0).trans rfl
    have q_4_f0 := Bq_4.frozen 0
    have q_4_c1 : v4.cell? ⟨v3.heap.size, 1, none⟩ = some (.int .i64 d) := (Bq_4.cell 1).trans rfl
    have q_4_f1 := Bq_4.frozen 1
    go_wp2
    refine bodyPost_ret (v := .tuple #[.agg #[.int .i64 0, .int .i64 0], .int .i64 4]) (by simp [results, Tryd.results20, go_sem, r_4_c0, r_4_f0, r_4_c1, r_4_f1]) rfl ⟨rfl, ?_⟩
    (repeat (first | exact Below.refl _ _ | with_reducible assumption | refine bl_alloc ?_ _ | refine bl_set ?_ (by simp <;> omega) _ | refine bl_drew ?_ | refine bl_drewN ?_ _ | refine bl_step ?_ (by assumption)))
  · obtain rfl := HP.out
    clear HP
    go_enter Tryd.func20, Tryd.ntmps20
    go_wp2_with fail
    refine (HC.out _).mono ?_; rintro e v1 ⟨rfl, hb1⟩
    have st1 := bl_step (bl_alloc (Below.refl _ _) _) hb1
    have bl1 := st1
    have Br_1 : Blk v1 (w.heap.size) 23 #[.int .i64 0, .int .i64 0] := (Blk.new _ _ _).below hb1
    have r_1_z : w.heap.size < v1.heap.size := Br_1.lt
    have r_1_c0 : v1.cell? ⟨w.heap.size, 0, none⟩ = some (.int .i64 0) := (Br_1.cell 0).trans rfl
    have r_1_f0 := Br_1.frozen 0
    have r_1_c1 : v1.cell? ⟨w.heap.size, 1, none⟩ = some (.int .i64 0) := (Br_1.cell 1).trans rfl
    have r_1_f1 := Br_1.frozen 1
    go_wp2_with fail
    refine (H1.out _ bl1).mono ?_; rintro e v2 ⟨rfl, hb2⟩
    have st2 := bl_step (Below.refl _ _) hb2
    have bl2 := bl_step bl1 st2
    clear r_1_z r_1_c0 r_1_f0 r_1_c1 r_1_f1
    have Br_2 := Br_1.below st2
    have r_2_z : w.heap.size < v2.heap.size := Br_2.lt
    have r_2_c0 : v2.cell? ⟨w.heap.size, 0, none⟩ = some (.int .i64 0) := (Br_2.cell 0).trans rfl
    have r_2_f0 := Br_2.frozen 0
    have r_2_c1 : v2.cell? ⟨w.heap.size, 1, none⟩ = some (.int .i64 0) := (Br_2.cell 1).trans rfl
    have r_2_f1 := Br_2.frozen 1
    go_wp2_with fail
    refine (H2.out _ bl2).mono ?_; rintro e v3 ⟨rfl, hb3⟩
    have st3 := bl_step (Below.refl _ _) hb3
    have bl3 := bl_step bl2 st3
    clear r_2_z r_2_c0 r_2_f0 r_2_c1 r_2_f1
    have Br_3 := Br_2.below st3
    have r_3_z : w.heap.size < v3.heap.size := Br_3.lt
    have r_3_c0 : v3.cell? ⟨w.heap.size, 0, none⟩ = some (.int .i64 0) := (Br_3.cell 0).trans rfl
    have r_3_f0 := Br_3.frozen 0
    have r_3_c1 : v3.cell? ⟨w.heap.size, 1, none⟩ = some (.int .i64 0) := (Br_3.cell 1).trans rfl
    have r_3_f1 := Br_3.frozen 1
    go_wp2_with fail
    refine (HT.out _ (bl_alloc bl3 _)).mono ?_; rintro e v4 ⟨rfl, hb4⟩
    have st4 := bl_step (bl_alloc (Below.refl _ _) _) hb4
    have bl4 := bl_step bl3 st4
    have Bq_4 : Blk v4 (v3.heap.size) 23 #[.int .i64 n, .int .i64 d] := (Blk.new _ _ _).below hb4
    clear r_3_z r_3_c0 r_3_f0 r_3_c1 r_3_f1
    have Br_4 := Br_3.below st4
    have r_4_z : w.heap.size < v4.heap.size := Br_4.lt
    have r_4_c0 : v4.cell? ⟨w.heap.size, 0, none⟩ = some (.int .i64 0) := (Br_4.cell 0).trans rfl
    have r_4_f0 := Br_4.frozen 0
    have r_4_c1 : v4.cell? ⟨w.heap.size, 1, none⟩ = some (.int .i64 0) := (Br_4.cell 1).trans rfl
    have r_4_f1 := Br_4.frozen 1
    have q_4_z : v3.heap.size < v4.heap.size := Bq_4.lt
    have q_4_c0 : v4.cell? ⟨v3.heap.size, 0, none⟩ = some (.int .i64 n) := (Bq_4.cell 0).trans rfl
    have q_4_f0 := Bq_4.frozen 0
    have q_4_c1 : v4.cell? ⟨v3.heap.size, 1, none⟩ = some (.int .i64 d) := (Bq_4.cell 1).trans rfl
    have q_4_f1 := Bq_4.frozen 1
    go_wp2
    refine bodyPost_ret (v := .tuple #[.agg #[.int .i64 n, .int .i64 d], .int .i64 0]) (by simp [results, Tryd.results20, go_sem, r_4_c0, r_4_f0, r_4_c1, r_4_f1]) rfl ⟨rfl, ?_⟩
    (repeat (first | exact Below.refl _ _ | with_reducible assumption | refine bl_alloc ?_ _ | refine bl_set ?_ (by simp <;> omega) _ | refine bl_drew ?_ | refine bl_drewN ?_ _ | refine bl_step ?_ (by assumption)))
end Go.Proofs.YtkdklmkcanjjfaaDoor
