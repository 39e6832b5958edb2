/- The walk of an instance's Copy. -/
import Derived.Test.YteddbdmddgmicaaDoorIL
import Derived.Test.YteddbdmddgmicaaDoorIP
import Derived.StillTailTactics
import Derived.Deep.RegionHeld3
import Derived.Deep.DrawnRows
namespace Go.Proofs.YteddbdmddgmicaaDoor
open Go.RowKit
set_option linter.unusedVariables false
set_option linter.unusedSimpArgs false
set_option maxRecDepth 100000

structure ILen (I : IData) : Prop where
  items : I.items.length ≤ 4096
  cost : I.cost.length ≤ 4096
  sets : I.sets.length ≤ 4096
  rows : ∀ r ∈ I.cost, r.length ≤ 4096
  elems : ∀ p ∈ I.sets, p.2.length ≤ 4096
theorem one_pair (l : List (Int × Int)) : ∀ u ∈ flat2 (l.map pairI), u.oneCell' = true := one_flat _ (fun p hp => by
  obtain ⟨q, _, rfl⟩ := List.mem_map.1 hp
  exact ⟨rfl, rfl⟩)
theorem one_hd {w : World} {B : Nat} {u : Value} {r : List Int} (h : HdAt w B u r) : u.oneCell' = true := by
  obtain ⟨A, c, rfl, _⟩ := h
  rfl
theorem cloneP_c (I : IData) (A1 : Option Addr) (c1 : Nat) (w : World) {B : Nat} (h : RdP w B A1 I.items) (hn : I.items.length ≤ 4096) (hB : B ≤ w.heap.size) :
    Calls Tryd.prog 32 #[.slice A1 I.items.length c1] w fun e w' => ∃ D d, e = .returned (.slice D I.items.length d) ∧ OwnP w' w.heap.size 52 (.slice D I.items.length d) I.items ∧ Below w.heap.size w w' :=
  (cloneP_any A1 I.items.length c1 _ w h (one_pair _) (by omega) hB).mono fun e w' ⟨v, he, ho, hb⟩ => by
    obtain ⟨D, d, rfl, _⟩ := own_slice ho
    exact ⟨D, d, he, ho, hb⟩
theorem cloneR_c (I : IData) (A2 : Option Addr) (c2 : Nat) (w : World) {B : Nat} (h : RdR w B A2 I.cost) (hn : I.cost.length ≤ 4096) (hB : B ≤ w.heap.size) :
    Calls Tryd.prog 33 #[.slice A2 I.cost.length c2] w fun e w' => ∃ (D : Option Addr) (d : Nat) (us : List Value), e = .returned (.slice D I.cost.length d) ∧ us.length = I.cost.length ∧ w'.ownsRow w.heap.size 53 1 (.slice D I.cost.length d) I.cost.length us ∧ (∀ (k : Nat) (r : List Int) (u : Value), I.cost[k]? = some r → us[k]? = some u → HdAt w' B u r) ∧ Below w.heap.size w w' := by
  obtain ⟨us, h1, h2, h3⟩ := h
  refine (cloneR_any A2 I.cost.length c2 us w h2 (fun u hu => ?_) (by omega) hB).mono fun e w' ⟨v, he, ho, hb⟩ => ?_
  · obtain ⟨k, hk, rfl⟩ := List.getElem_of_mem hu
    exact one_hd (h3 k _ _ (List.getElem?_eq_getElem (by omega)) (List.getElem?_eq_getElem hk))
  · obtain ⟨D, d, rfl, _⟩ := own_slice ho
    exact ⟨D, d, us, he, h1, ho, fun k r u a b => (h3 k r u a b).keep (Alike.of_below hb hB), hb⟩
theorem cloneS_c (I : IData) (A3 : Option Addr) (c3 : Nat) (w : World) {B : Nat} (h : RdS w B A3 I.sets) (hn : I.sets.length ≤ 4096) (hB : B ≤ w.heap.size) :
    Calls Tryd.prog 34 #[.slice A3 I.sets.length c3] w fun e w' => ∃ (D : Option Addr) (d : Nat) (ws : List (Value × Value)), e = .returned (.slice D I.sets.length d) ∧ ws.length = I.sets.length ∧ w'.ownsRow w.heap.size 56 2 (.slice D I.sets.length d) I.sets.length (flat2 ws) ∧ (∀ (k : Nat) (p : Int × List Int) (u : Value × Value), I.sets[k]? = some p → ws[k]? = some u → u.1 = .int .i64 p.1 ∧ HdAt w' B u.2 p.2) ∧ Below w.heap.size w w' := by
  obtain ⟨ws, h1, h2, h3⟩ := h
  refine (cloneS_any A3 I.sets.length c3 _ w h2 (one_flat ws (fun u hu => ?_)) (by omega) hB).mono fun e w' ⟨v, he, ho, hb⟩ => ?_
  · obtain ⟨k, hk, rfl⟩ := List.getElem_of_mem hu
    obtain ⟨e1, e2⟩ := h3 k _ _ (List.getElem?_eq_getElem (by omega)) (List.getElem?_eq_getElem hk)
    exact ⟨by rw [e1]; rfl, one_hd e2⟩
  · obtain ⟨D, d, rfl, _⟩ := own_slice ho
    exact ⟨D, d, ws, he, h1, ho, fun k p u a b => ⟨(h3 k p u a b).1, (h3 k p u a b).2.keep (Alike.of_below hb hB)⟩, hb⟩
theorem cloneI_c (r : List Int) (A : Option Addr) (c : Nat) (w : World) {B : Nat} (h : RdI w B A r) (hn : r.length ≤ 4096) (hB : B ≤ w.heap.size) :
    Calls Tryd.prog 35 #[.slice A r.length c] w fun e w' => ∃ D d, e = .returned (.slice D r.length d) ∧ w'.ownsRow w.heap.size 2 1 (.slice D r.length d) r.length (r.map (Value.int .i64)) ∧ Below w.heap.size w w' :=
  (cloneI_any A r.length c _ w h (one_map r) (by omega) hB).mono fun e w' ⟨v, he, ho, hb⟩ => by
    obtain ⟨D, d, rfl, _⟩ := own_slice ho
    exact ⟨D, d, he, ho, hb⟩
theorem cloneN_c (r : List Int) (A : Option Addr) (c : Nat) (w : World) {B : Nat} (h : RdI w B A r) (hn : r.length ≤ 4096) (hB : B ≤ w.heap.size) :
    Calls Tryd.prog 36 #[.slice A r.length c] w fun e w' => ∃ D d, e = .returned (.slice D r.length d) ∧ w'.ownsRow w.heap.size 3 1 (.slice D r.length d) r.length (r.map (Value.int .i64)) ∧ Below w.heap.size w w' :=
  (cloneN_any A r.length c _ w h (one_map r) (by omega) hB).mono fun e w' ⟨v, he, ho, hb⟩ => by
    obtain ⟨D, d, rfl, _⟩ := own_slice ho
    exact ⟨D, d, he, ho, hb⟩
set_option maxHeartbeats 12800000 in
theorem copy_any (I : IData) (A1 A2 A3 : Option Addr) (c1 c2 c3 : Nat) (w : World) {B : Nat} (hI : InstAt w B I A1 c1 A2 c2 A3 c3) (hL : ILen I) :
    Calls Tryd.prog 17 #[.agg #[.int .i64 I.kind, .int .i64 I.cap, .slice A1 I.items.length c1, .slice A2 I.cost.length c2, .int .i64 I.size, .slice A3 I.sets.length c3]] w fun e w' => ∃ D1 d1 D2 d2 D3 d3, e = .returned (.agg #[.int .i64 I.kind, .int .i64 I.cap, .slice D1 I.items.length d1, .slice D2 I.cost.length d2, .int .i64 I.size, .slice D3 I.sets.length d3]) ∧ OwnI w' (w.heap.size + 3) 52 56 I D1 d1 D2 d2 D3 d3 ∧ Below w.heap.size w w' := by
  have HI := Lib.hid hI
  have HL := Lib.hid hL
  have BD := hI.bd
  have HP := Lib.hid (fun w' (hb : Below w.heap.size w w') => cloneP_c I A1 c1 w' (hI.below hb).items hL.items (hI.below hb).bd)
  have HR := Lib.hid (fun w' (hb : Below w.heap.size w w') => cloneR_c I A2 c2 w' (hI.below hb).cost hL.cost (hI.below hb).bd)
  have HS := Lib.hid (fun w' (hb : Below w.heap.size w w') => cloneS_c I A3 c3 w' (hI.below hb).sets hL.sets (hI.below hb).bd)
  have N1 := hL.items
  have N2 := hL.cost
  have N3 := hL.sets
  clear hI hL
  go_enter Tryd.func17, Tryd.ntmps17
  have bl0 := Below.refl w.heap.size w
  go_wp2_with fail
  have Ni_0 : Blk (((w.alloc (.cells #[.int .i64 I.kind, .int .i64 I.cap, .slice A1 I.items.length c1, .slice A2 I.cost.length c2, .int .i64 I.size, .slice A3 I.sets.length c3] 33)).alloc (.cells #[.int .i64 0, .int .i64 0, .slice none 0 0, .slice none 0 0, .int .i64 0, .slice none 0 0] 33)).alloc (.cells #[.int .i64 I.kind, .int .i64 I.cap, .slice A1 I.items.length c1, .slice A2 I.cost.length c2, .int .i64 I.size, .slice A3 I.sets.length c3] 33)) (w.heap.size) 33 #[.int .i64 I.kind, .int .i64 I.cap, .slice A1 I.items.length c1, .slice A2 I.cost.length c2, .int .i64 I.size, .slice A3 I.sets.length c3] := (((Blk.new _ _ _).alloc _).alloc _)
  have Nr_0 : Blk (((w.alloc (.cells #[.int .i64 I.kind, .int .i64 I.cap, .slice A1 I.items.length c1, .slice A2 I.cost.length c2, .int .i64 I.size, .slice A3 I.sets.length c3] 33)).alloc (.cells #[.int .i64 0, .int .i64 0, .slice none 0 0, .slice none 0 0, .int .i64 0, .slice none 0 0] 33)).alloc (.cells #[.int .i64 I.kind, .int .i64 I.cap, .slice A1 I.items.length c1, .slice A2 I.cost.length c2, .int .i64 I.size, .slice A3 I.sets.length c3] 33)) (w.heap.size + 1) 33 #[.int .i64 0, .int .i64 0, .slice none 0 0, .slice none 0 0, .int .i64 0, .slice none 0 0] := ((Blk.new' (by simp) _ _).alloc _)
  have No_0 : Blk (((w.alloc (.cells #[.int .i64 I.kind, .int .i64 I.cap, .slice A1 I.items.length c1, .slice A2 I.cost.length c2, .int .i64 I.size, .slice A3 I.sets.length c3] 33)).alloc (.cells #[.int .i64 0, .int .i64 0, .slice none 0 0, .slice none 0 0, .int .i64 0, .slice none 0 0] 33)).alloc (.cells #[.int .i64 I.kind, .int .i64 I.cap, .slice A1 I.items.length c1, .slice A2 I.cost.length c2, .int .i64 I.size, .slice A3 I.sets.length c3] 33)) (w.heap.size + 1 + 1) 33 #[.int .i64 I.kind, .int .i64 I.cap, .slice A1 I.items.length c1, .slice A2 I.cost.length c2, .int .i64 I.size, .slice A3 I.sets.length c3] := (Blk.new' (by simp) _ _)
  have bl0 := bl_alloc (bl_alloc (bl_alloc (bl0) (.cells #[.int .i64 I.kind, .int .i64 I.cap, .slice A1 I.items.length c1, .slice A2 I.cost.length c2, .int .i64 I.size, .slice A3 I.sets.length c3] 33)) (.cells #[.int .i64 0, .int .i64 0, .slice none 0 0, .slice none 0 0, .int .i64 0, .slice none 0 0] 33)) (.cells #[.int .i64 I.kind, .int .i64 I.cap, .slice A1 I.items.length c1, .slice A2 I.cost.length c2, .int .i64 I.size, .slice A3 I.sets.length c3] 33)
  generalize ((w.alloc (.cells #[.int .i64 I.kind, .int .i64 I.cap, .slice A1 I.items.length c1, .slice A2 I.cost.length c2, .int .i64 I.size, .slice A3 I.sets.length c3] 33)).alloc (.cells #[.int .i64 0, .int .i64 0, .slice none 0 0, .slice none 0 0, .int .i64 0, .slice none 0 0] 33)).alloc (.cells #[.int .i64 I.kind, .int .i64 I.cap, .slice A1 I.items.length c1, .slice A2 I.cost.length c2, .int .i64 I.size, .slice A3 I.sets.length c3] 33) = vw0 at Ni_0 Nr_0 No_0 bl0 ⊢
  have i_n0_z : w.heap.size < vw0.heap.size := Ni_0.lt
  have i_n0_c0 : vw0.cell? ⟨w.heap.size, 0, none⟩ = some (.int .i64 I.kind) := (Ni_0.cell 0).trans rfl
  have i_n0_f0 := Ni_0.frozen 0
  have i_n0_c1 : vw0.cell? ⟨w.heap.size, 1, none⟩ = some (.int .i64 I.cap) := (Ni_0.cell 1).trans rfl
  have i_n0_f1 := Ni_0.frozen 1
  have i_n0_c2 : vw0.cell? ⟨w.heap.size, 2, none⟩ = some (.slice A1 I.items.length c1) := (Ni_0.cell 2).trans rfl
  have i_n0_f2 := Ni_0.frozen 2
  have i_n0_c3 : vw0.cell? ⟨w.heap.size, 3, none⟩ = some (.slice A2 I.cost.length c2) := (Ni_0.cell 3).trans rfl
  have i_n0_f3 := Ni_0.frozen 3
  have i_n0_c4 : vw0.cell? ⟨w.heap.size, 4, none⟩ = some (.int .i64 I.size) := (Ni_0.cell 4).trans rfl
  have i_n0_f4 := Ni_0.frozen 4
  have i_n0_c5 : vw0.cell? ⟨w.heap.size, 5, none⟩ = some (.slice A3 I.sets.length c3) := (Ni_0.cell 5).trans rfl
  have i_n0_f5 := Ni_0.frozen 5
  have r_n0_z : w.heap.size + 1 < vw0.heap.size := Nr_0.lt
  have r_n0_c0 : vw0.cell? ⟨w.heap.size + 1, 0, none⟩ = some (.int .i64 0) := (Nr_0.cell 0).trans rfl
  have r_n0_f0 := Nr_0.frozen 0
  have r_n0_c1 : vw0.cell? ⟨w.heap.size + 1, 1, none⟩ = some (.int .i64 0) := (Nr_0.cell 1).trans rfl
  have r_n0_f1 := Nr_0.frozen 1
  have r_n0_c2 : vw0.cell? ⟨w.heap.size + 1, 2, none⟩ = some (.slice none 0 0) := (Nr_0.cell 2).trans rfl
  have r_n0_f2 := Nr_0.frozen 2
  have r_n0_c3 : vw0.cell? ⟨w.heap.size + 1, 3, none⟩ = some (.slice none 0 0) := (Nr_0.cell 3).trans rfl
  have r_n0_f3 := Nr_0.frozen 3
  have r_n0_c4 : vw0.cell? ⟨w.heap.size + 1, 4, none⟩ = some (.int .i64 0) := (Nr_0.cell 4).trans rfl
  have r_n0_f4 := Nr_0.frozen 4
  have r_n0_c5 : vw0.cell? ⟨w.heap.size + 1, 5, none⟩ = some (.slice none 0 0) := (Nr_0.cell 5).trans rfl
  have r_n0_f5 := Nr_0.frozen 5
  have o_n0_z : w.heap.size + 1 + 1 < vw0.heap.size := No_0.lt
  have o_n0_c0 : vw0.cell? ⟨w.heap.size + 1 + 1, 0, none⟩ = some (.int .i64 I.kind) := (No_0.cell 0).trans rfl
  have o_n0_f0 := No_0.frozen 0
  have o_n0_c1 : vw0.cell? ⟨w.heap.size + 1 + 1, 1, none⟩ = some (.int .i64 I.cap) := (No_0.cell 1).trans rfl
  have o_n0_f1 := No_0.frozen 1
  have o_n0_c2 : vw0.cell? ⟨w.heap.size + 1 + 1, 2, none⟩ = some (.slice A1 I.items.length c1) := (No_0.cell 2).trans rfl
  have o_n0_f2 := No_0.frozen 2
  have o_n0_c3 : vw0.cell? ⟨w.heap.size + 1 + 1, 3, none⟩ = some (.slice A2 I.cost.length c2) := (No_0.cell 3).trans rfl
  have o_n0_f3 := No_0.frozen 3
  have o_n0_c4 : vw0.cell? ⟨w.heap.size + 1 + 1, 4, none⟩ = some (.int .i64 I.size) := (No_0.cell 4).trans rfl
  have o_n0_f4 := No_0.frozen 4
  have o_n0_c5 : vw0.cell? ⟨w.heap.size + 1 + 1, 5, none⟩ = some (.slice A3 I.sets.length c3) := (No_0.cell 5).trans rfl
  have o_n0_f5 := No_0.frozen 5
  go_region_held3 (fun w' => w'.cell? ⟨w.heap.size, 2, none⟩ = some (.slice A1 I.items.length c1) ∧ w'.cell? ⟨w.heap.size, 3, none⟩ = some (.slice A2 I.cost.length c2) ∧ w'.cell? ⟨w.heap.size, 5, none⟩ = some (.slice A3 I.sets.length c3)) (first | go_keep | (go_split_ands; refine ⟨?_, ?_, ?_⟩ <;> (repeat rw [World.cell?_setCell_other _ _ _ _ (by simp)]) <;> assumption)) (first | (go_at_call 32; with_reducible refine (HP.out _ (bl_drew bl0)).mono ?_; rintro e z1 ⟨D1, d1, rfl, own1, hq1⟩; have be1 := bl_step (bl_drew bl0) hq1; have Ni_1 := Ni_0.drew.below hq1; have Nr_1 := Nr_0.drew.below hq1; have No_1 := No_0.drew.below hq1; clear i_n0_z i_n0_c0 i_n0_f0 i_n0_c1 i_n0_f1 i_n0_c2 i_n0_f2 i_n0_c3 i_n0_f3 i_n0_c4 i_n0_f4 i_n0_c5 i_n0_f5 r_n0_z r_n0_c0 r_n0_f0 r_n0_c1 r_n0_f1 r_n0_c2 r_n0_f2 r_n0_c3 r_n0_f3 r_n0_c4 r_n0_f4 r_n0_c5 r_n0_f5 o_n0_z o_n0_c0 o_n0_f0 o_n0_c1 o_n0_f1 o_n0_c2 o_n0_f2 o_n0_c3 o_n0_f3 o_n0_c4 o_n0_f4 o_n0_c5 o_n0_f5; have i1_z : w.heap.size < z1.heap.size := Ni_1.lt; have i1_c0 : z1.cell? ⟨w.heap.size, 0, none⟩ = some (.int .i64 I.kind) := (Ni_1.cell 0).trans rfl; have i1_f0 := Ni_1.frozen 0; have i1_c1 : z1.cell? ⟨w.heap.size, 1, none⟩ = some (.int .i64 I.cap) := (Ni_1.cell 1).trans rfl; have i1_f1 := Ni_1.frozen 1; have i1_c2 : z1.cell? ⟨w.heap.size, 2, none⟩ = some (.slice A1 I.items.length c1) := (Ni_1.cell 2).trans rfl; have i1_f2 := Ni_1.frozen 2; have i1_c3 : z1.cell? ⟨w.heap.size, 3, none⟩ = some (.slice A2 I.cost.length c2) := (Ni_1.cell 3).trans rfl; have i1_f3 := Ni_1.frozen 3; have i1_c4 : z1.cell? ⟨w.heap.size, 4, none⟩ = some (.int .i64 I.size) := (Ni_1.cell 4).trans rfl; have i1_f4 := Ni_1.frozen 4; have i1_c5 : z1.cell? ⟨w.heap.size, 5, none⟩ = some (.slice A3 I.sets.length c3) := (Ni_1.cell 5).trans rfl; have i1_f5 := Ni_1.frozen 5; have o1_z : (w.heap.size + 1 + 1) < z1.heap.size := No_1.lt; have o1_c0 : z1.cell? ⟨(w.heap.size + 1 + 1), 0, none⟩ = some (.int .i64 I.kind) := (No_1.cell 0).trans rfl; have o1_f0 := No_1.frozen 0; have o1_c1 : z1.cell? ⟨(w.heap.size + 1 + 1), 1, none⟩ = some (.int .i64 I.cap) := (No_1.cell 1).trans rfl; have o1_f1 := No_1.frozen 1; have o1_c2 : z1.cell? ⟨(w.heap.size + 1 + 1), 2, none⟩ = some (.slice A1 I.items.length c1) := (No_1.cell 2).trans rfl; have o1_f2 := No_1.frozen 2; have o1_c3 : z1.cell? ⟨(w.heap.size + 1 + 1), 3, none⟩ = some (.slice A2 I.cost.length c2) := (No_1.cell 3).trans rfl; have o1_f3 := No_1.frozen 3; have o1_c4 : z1.cell? ⟨(w.heap.size + 1 + 1), 4, none⟩ = some (.int .i64 I.size) := (No_1.cell 4).trans rfl; have o1_f4 := No_1.frozen 4; have o1_c5 : z1.cell? ⟨(w.heap.size + 1 + 1), 5, none⟩ = some (.slice A3 I.sets.length c3) := (No_1.cell 5).trans rfl; have o1_f5 := No_1.frozen 5) | (go_at_call 33; with_reducible refine (HR.out _ be1).mono ?_; rintro e z2 ⟨D2, d2, us, rfl, ul, own2, old2, hq2⟩; have be2 := bl_step be1 hq2; have Ni_2 := Ni_1.below hq2; have Nr_2 := Nr_1.below hq2; have No_2 := No_1.below hq2; clear i1_z i1_c0 i1_f0 i1_c1 i1_f1 i1_c2 i1_f2 i1_c3 i1_f3 i1_c4 i1_f4 i1_c5 i1_f5 o1_z o1_c0 o1_f0 o1_c1 o1_f1 o1_c2 o1_f2 o1_c3 o1_f3 o1_c4 o1_f4 o1_c5 o1_f5; have i2_z : w.heap.size < z2.heap.size := Ni_2.lt; have i2_c0 : z2.cell? ⟨w.heap.size, 0, none⟩ = some (.int .i64 I.kind) := (Ni_2.cell 0).trans rfl; have i2_f0 := Ni_2.frozen 0; have i2_c1 : z2.cell? ⟨w.heap.size, 1, none⟩ = some (.int .i64 I.cap) := (Ni_2.cell 1).trans rfl; have i2_f1 := Ni_2.frozen 1; have i2_c2 : z2.cell? ⟨w.heap.size, 2, none⟩ = some (.slice A1 I.items.length c1) := (Ni_2.cell 2).trans rfl; have i2_f2 := Ni_2.frozen 2; have i2_c3 : z2.cell? ⟨w.heap.size, 3, none⟩ = some (.slice A2 I.cost.length c2) := (Ni_2.cell 3).trans rfl; have i2_f3 := Ni_2.frozen 3; have i2_c4 : z2.cell? ⟨w.heap.size, 4, none⟩ = some (.int .i64 I.size) := (Ni_2.cell 4).trans rfl; have i2_f4 := Ni_2.frozen 4; have i2_c5 : z2.cell? ⟨w.heap.size, 5, none⟩ = some (.slice A3 I.sets.length c3) := (Ni_2.cell 5).trans rfl; have i2_f5 := Ni_2.frozen 5; have o2_z : (w.heap.size + 1 + 1) < z2.heap.size := No_2.lt; have o2_c0 : z2.cell? ⟨(w.heap.size + 1 + 1), 0, none⟩ = some (.int .i64 I.kind) := (No_2.cell 0).trans rfl; have o2_f0 := No_2.frozen 0; have o2_c1 : z2.cell? ⟨(w.heap.size + 1 + 1), 1, none⟩ = some (.int .i64 I.cap) := (No_2.cell 1).trans rfl; have o2_f1 := No_2.frozen 1; have o2_c2 : z2.cell? ⟨(w.heap.size + 1 + 1), 2, none⟩ = some (.slice A1 I.items.length c1) := (No_2.cell 2).trans rfl; have o2_f2 := No_2.frozen 2; have o2_c3 : z2.cell? ⟨(w.heap.size + 1 + 1), 3, none⟩ = some (.slice A2 I.cost.length c2) := (No_2.cell 3).trans rfl; have o2_f3 := No_2.frozen 3; have o2_c4 : z2.cell? ⟨(w.heap.size + 1 + 1), 4, none⟩ = some (.int .i64 I.size) := (No_2.cell 4).trans rfl; have o2_f4 := No_2.frozen 4; have o2_c5 : z2.cell? ⟨(w.heap.size + 1 + 1), 5, none⟩ = some (.slice A3 I.sets.length c3) := (No_2.cell 5).trans rfl; have o2_f5 := No_2.frozen 5) | (go_at_call 34; with_reducible refine (HS.out _ be2).mono ?_; rintro e z3 ⟨D3, d3, ws, rfl, wl, own3, old3, hq3⟩; have be3 := bl_step be2 hq3; have Ni_3 := Ni_2.below hq3; have Nr_3 := Nr_2.below hq3; have No_3 := No_2.below hq3; clear i2_z i2_c0 i2_f0 i2_c1 i2_f1 i2_c2 i2_f2 i2_c3 i2_f3 i2_c4 i2_f4 i2_c5 i2_f5 o2_z o2_c0 o2_f0 o2_c1 o2_f1 o2_c2 o2_f2 o2_c3 o2_f3 o2_c4 o2_f4 o2_c5 o2_f5; have i3_z : w.heap.size < z3.heap.size := Ni_3.lt; have i3_c0 : z3.cell? ⟨w.heap.size, 0, none⟩ = some (.int .i64 I.kind) := (Ni_3.cell 0).trans rfl; have i3_f0 := Ni_3.frozen 0; have i3_c1 : z3.cell? ⟨w.heap.size, 1, none⟩ = some (.int .i64 I.cap) := (Ni_3.cell 1).trans rfl; have i3_f1 := Ni_3.frozen 1; have i3_c2 : z3.cell? ⟨w.heap.size, 2, none⟩ = some (.slice A1 I.items.length c1) := (Ni_3.cell 2).trans rfl; have i3_f2 := Ni_3.frozen 2; have i3_c3 : z3.cell? ⟨w.heap.size, 3, none⟩ = some (.slice A2 I.cost.length c2) := (Ni_3.cell 3).trans rfl; have i3_f3 := Ni_3.frozen 3; have i3_c4 : z3.cell? ⟨w.heap.size, 4, none⟩ = some (.int .i64 I.size) := (Ni_3.cell 4).trans rfl; have i3_f4 := Ni_3.frozen 4; have i3_c5 : z3.cell? ⟨w.heap.size, 5, none⟩ = some (.slice A3 I.sets.length c3) := (Ni_3.cell 5).trans rfl; have i3_f5 := Ni_3.frozen 5; have o3_z : (w.heap.size + 1 + 1) < z3.heap.size := No_3.lt; have o3_c0 : z3.cell? ⟨(w.heap.size + 1 + 1), 0, none⟩ = some (.int .i64 I.kind) := (No_3.cell 0).trans rfl; have o3_f0 := No_3.frozen 0; have o3_c1 : z3.cell? ⟨(w.heap.size + 1 + 1), 1, none⟩ = some (.int .i64 I.cap) := (No_3.cell 1).trans rfl; have o3_f1 := No_3.frozen 1; have o3_c2 : z3.cell? ⟨(w.heap.size + 1 + 1), 2, none⟩ = some (.slice A1 I.items.length c1) := (No_3.cell 2).trans rfl; have o3_f2 := No_3.frozen 2; have o3_c3 : z3.cell? ⟨(w.heap.size + 1 + 1), 3, none⟩ = some (.slice A2 I.cost.length c2) := (No_3.cell 3).trans rfl; have o3_f3 := No_3.frozen 3; have o3_c4 : z3.cell? ⟨(w.heap.size + 1 + 1), 4, none⟩ = some (.int .i64 I.size) := (No_3.cell 4).trans rfl; have o3_f4 := No_3.frozen 4; have o3_c5 : z3.cell? ⟨(w.heap.size + 1 + 1), 5, none⟩ = some (.slice A3 I.sets.length c3) := (No_3.cell 5).trans rfl; have o3_f5 := No_3.frozen 5))
  have hsz : w.heap.size + 3 ≤ vw0.heap.size := by have := No_0.lt; omega
  have hs1 : w.heap.size + 3 ≤ z1.heap.size := by have := No_1.lt; omega
  have hs2 : w.heap.size + 3 ≤ z2.heap.size := by have := No_2.lt; omega
  have HC : CpR (((z3.setCell ⟨w.heap.size + 1 + 1, 2, none⟩ (.slice D1 I.items.length d1)).setCell ⟨w.heap.size + 1 + 1, 3, none⟩ (.slice D2 I.cost.length d2)).setCell ⟨w.heap.size + 1 + 1, 5, none⟩ (.slice D3 I.sets.length d3)) w B I D1 d1 D2 d2 D3 d3 0 us 0 ws :=
    CpR.start ul (own_more (own_below own2 hq3) hs1) (fun k r u a b => (old2 k r u a b).keep (Alike.of_below hq3 (by have := hs2; omega))) (own_more ((own1.below hq2).below hq3) hsz) wl (own_more own3 hs2) old3 No_3 Nr_3 be3 BD
  generalize ((z3.setCell ⟨w.heap.size + 1 + 1, 2, none⟩ (.slice D1 I.items.length d1)).setCell ⟨w.heap.size + 1 + 1, 3, none⟩ (.slice D2 I.cost.length d2)).setCell ⟨w.heap.size + 1 + 1, 5, none⟩ (.slice D3 I.sets.length d3) = z4 at HC ⊢
  replace HC := Lib.hid HC
  clear own1 own2 own3 old2 old3 ul wl Ni_0 Nr_0 No_0 Ni_1 Nr_1 No_1 Ni_2 Nr_2 No_2 Ni_3 Nr_3 No_3 be1 be2 be3 hq1 hq2 hq3 hsz hs1 hs2 bl0 i3_z i3_c0 i3_f0 i3_c1 i3_f1 i3_c2 i3_f2 i3_c3 i3_f3 i3_c4 i3_f4 i3_c5 i3_f5 o3_z o3_c0 o3_f0 o3_c1 o3_f1 o3_c2 o3_f2 o3_c3 o3_f3 o3_c4 o3_f4 o3_c5 o3_f5
  have a_z : (w.heap.size + 1 + 1) < z4.heap.size := (show Blk z4 (w.heap.size + 1 + 1) 33 #[.int .i64 I.kind, .int .i64 I.cap, .slice D1 I.items.length d1, .slice D2 I.cost.length d2, .int .i64 I.size, .slice D3 I.sets.length d3] from HC.out.blk).lt
  have a_c0 : z4.cell? ⟨(w.heap.size + 1 + 1), 0, none⟩ = some (.int .i64 I.kind) := ((show Blk z4 (w.heap.size + 1 + 1) 33 #[.int .i64 I.kind, .int .i64 I.cap, .slice D1 I.items.length d1, .slice D2 I.cost.length d2, .int .i64 I.size, .slice D3 I.sets.length d3] from HC.out.blk).cell 0).trans rfl
  have a_f0 := (show Blk z4 (w.heap.size + 1 + 1) 33 #[.int .i64 I.kind, .int .i64 I.cap, .slice D1 I.items.length d1, .slice D2 I.cost.length d2, .int .i64 I.size, .slice D3 I.sets.length d3] from HC.out.blk).frozen 0
  have a_c1 : z4.cell? ⟨(w.heap.size + 1 + 1), 1, none⟩ = some (.int .i64 I.cap) := ((show Blk z4 (w.heap.size + 1 + 1) 33 #[.int .i64 I.kind, .int .i64 I.cap, .slice D1 I.items.length d1, .slice D2 I.cost.length d2, .int .i64 I.size, .slice D3 I.sets.length d3] from HC.out.blk).cell 1).trans rfl
  have a_f1 := (show Blk z4 (w.heap.size + 1 + 1) 33 #[.int .i64 I.kind, .int .i64 I.cap, .slice D1 I.items.length d1, .slice D2 I.cost.length d2, .int .i64 I.size, .slice D3 I.sets.length d3] from HC.out.blk).frozen 1
  have a_c2 : z4.cell? ⟨(w.heap.size + 1 + 1), 2, none⟩ = some (.slice D1 I.items.length d1) := ((show Blk z4 (w.heap.size + 1 + 1) 33 #[.int .i64 I.kind, .int .i64 I.cap, .slice D1 I.items.length d1, .slice D2 I.cost.length d2, .int .i64 I.size, .slice D3 I.sets.length d3] from HC.out.blk).cell 2).trans rfl
  have a_f2 := (show Blk z4 (w.heap.size + 1 + 1) 33 #[.int .i64 I.kind, .int .i64 I.cap, .slice D1 I.items.length d1, .slice D2 I.cost.length d2, .int .i64 I.size, .slice D3 I.sets.length d3] from HC.out.blk).frozen 2
  have a_c3 : z4.cell? ⟨(w.heap.size + 1 + 1), 3, none⟩ = some (.slice D2 I.cost.length d2) := ((show Blk z4 (w.heap.size + 1 + 1) 33 #[.int .i64 I.kind, .int .i64 I.cap, .slice D1 I.items.length d1, .slice D2 I.cost.length d2, .int .i64 I.size, .slice D3 I.sets.length d3] from HC.out.blk).cell 3).trans rfl
  have a_f3 := (show Blk z4 (w.heap.size + 1 + 1) 33 #[.int .i64 I.kind, .int .i64 I.cap, .slice D1 I.items.length d1, .slice D2 I.cost.length d2, .int .i64 I.size, .slice D3 I.sets.length d3] from HC.out.blk).frozen 3
  have a_c4 : z4.cell? ⟨(w.heap.size + 1 + 1), 4, none⟩ = some (.int .i64 I.size) := ((show Blk z4 (w.heap.size + 1 + 1) 33 #[.int .i64 I.kind, .int .i64 I.cap, .slice D1 I.items.length d1, .slice D2 I.cost.length d2, .int .i64 I.size, .slice D3 I.sets.length d3] from HC.out.blk).cell 4).trans rfl
  have a_f4 := (show Blk z4 (w.heap.size + 1 + 1) 33 #[.int .i64 I.kind, .int .i64 I.cap, .slice D1 I.items.length d1, .slice D2 I.cost.length d2, .int .i64 I.size, .slice D3 I.sets.length d3] from HC.out.blk).frozen 4
  have a_c5 : z4.cell? ⟨(w.heap.size + 1 + 1), 5, none⟩ = some (.slice D3 I.sets.length d3) := ((show Blk z4 (w.heap.size + 1 + 1) 33 #[.int .i64 I.kind, .int .i64 I.cap, .slice D1 I.items.length d1, .slice D2 I.cost.length d2, .int .i64 I.size, .slice D3 I.sets.length d3] from HC.out.blk).cell 5).trans rfl
  have a_f5 := (show Blk z4 (w.heap.size + 1 + 1) 33 #[.int .i64 I.kind, .int .i64 I.cap, .slice D1 I.items.length d1, .slice D2 I.cost.length d2, .int .i64 I.size, .slice D3 I.sets.length d3] from HC.out.blk).frozen 5
  go_wp2_with fail
  go_loopw [22] (fun vi wr => ∃ (i : Nat) (us : List Value), vi = .int .i64 i ∧ i ≤ I.cost.length ∧ Hid (CpR wr w B I D1 d1 D2 d2 D3 d3 i us 0 ws)) (fun vi _ => I.cost.length - (intOf vi).toNat)
  case atStart => exact ⟨0, us, rfl, Nat.zero_le _, HC⟩
  case round =>
    clear HC a_z a_c0 a_f0 a_c1 a_f1 a_c2 a_f2 a_c3 a_f3 a_c4 a_f4 a_c5 a_f5
    obtain ⟨i, us, rfl, hi, HC⟩ := hrel
    have b_z : (w.heap.size + 1 + 1) < wr.heap.size := (show Blk wr (w.heap.size + 1 + 1) 33 #[.int .i64 I.kind, .int .i64 I.cap, .slice D1 I.items.length d1, .slice D2 I.cost.length d2, .int .i64 I.size, .slice D3 I.sets.length d3] from HC.out.blk).lt
    have b_c0 : wr.cell? ⟨(w.heap.size + 1 + 1), 0, none⟩ = some (.int .i64 I.kind) := ((show Blk wr (w.heap.size + 1 + 1) 33 #[.int .i64 I.kind, .int .i64 I.cap, .slice D1 I.items.length d1, .slice D2 I.cost.length d2, .int .i64 I.size, .slice D3 I.sets.length d3] from HC.out.blk).cell 0).trans rfl
    have b_f0 := (show Blk wr (w.heap.size + 1 + 1) 33 #[.int .i64 I.kind, .int .i64 I.cap, .slice D1 I.items.length d1, .slice D2 I.cost.length d2, .int .i64 I.size, .slice D3 I.sets.length d3] from HC.out.blk).frozen 0
    have b_c1 : wr.cell? ⟨(w.heap.size + 1 + 1), 1, none⟩ = some (.int .i64 I.cap) := ((show Blk wr (w.heap.size + 1 + 1) 33 #[.int .i64 I.kind, .int .i64 I.cap, .slice D1 I.items.length d1, .slice D2 I.cost.length d2, .int .i64 I.size, .slice D3 I.sets.length d3] from HC.out.blk).cell 1).trans rfl
    have b_f1 := (show Blk wr (w.heap.size + 1 + 1) 33 #[.int .i64 I.kind, .int .i64 I.cap, .slice D1 I.items.length d1, .slice D2 I.cost.length d2, .int .i64 I.size, .slice D3 I.sets.length d3] from HC.out.blk).frozen 1
    have b_c2 : wr.cell? ⟨(w.heap.size + 1 + 1), 2, none⟩ = some (.slice D1 I.items.length d1) := ((show Blk wr (w.heap.size + 1 + 1) 33 #[.int .i64 I.kind, .int .i64 I.cap, .slice D1 I.items.length d1, .slice D2 I.cost.length d2, .int .i64 I.size, .slice D3 I.sets.length d3] from HC.out.blk).cell 2).trans rfl
    have b_f2 := (show Blk wr (w.heap.size + 1 + 1) 33 #[.int .i64 I.kind, .int .i64 I.cap, .slice D1 I.items.length d1, .slice D2 I.cost.length d2, .int .i64 I.size, .slice D3 I.sets.length d3] from HC.out.blk).frozen 2
    have b_c3 : wr.cell? ⟨(w.heap.size + 1 + 1), 3, none⟩ = some (.slice D2 I.cost.length d2) := ((show Blk wr (w.heap.size + 1 + 1) 33 #[.int .i64 I.kind, .int .i64 I.cap, .slice D1 I.items.length d1, .slice D2 I.cost.length d2, .int .i64 I.size, .slice D3 I.sets.length d3] from HC.out.blk).cell 3).trans rfl
    have b_f3 := (show Blk wr (w.heap.size + 1 + 1) 33 #[.int .i64 I.kind, .int .i64 I.cap, .slice D1 I.items.length d1, .slice D2 I.cost.length d2, .int .i64 I.size, .slice D3 I.sets.length d3] from HC.out.blk).frozen 3
    have b_c4 : wr.cell? ⟨(w.heap.size + 1 + 1), 4, none⟩ = some (.int .i64 I.size) := ((show Blk wr (w.heap.size + 1 + 1) 33 #[.int .i64 I.kind, .int .i64 I.cap, .slice D1 I.items.length d1, .slice D2 I.cost.length d2, .int .i64 I.size, .slice D3 I.sets.length d3] from HC.out.blk).cell 4).trans rfl
    have b_f4 := (show Blk wr (w.heap.size + 1 + 1) 33 #[.int .i64 I.kind, .int .i64 I.cap, .slice D1 I.items.length d1, .slice D2 I.cost.length d2, .int .i64 I.size, .slice D3 I.sets.length d3] from HC.out.blk).frozen 4
    have b_c5 : wr.cell? ⟨(w.heap.size + 1 + 1), 5, none⟩ = some (.slice D3 I.sets.length d3) := ((show Blk wr (w.heap.size + 1 + 1) 33 #[.int .i64 I.kind, .int .i64 I.cap, .slice D1 I.items.length d1, .slice D2 I.cost.length d2, .int .i64 I.size, .slice D3 I.sets.length d3] from HC.out.blk).cell 5).trans rfl
    have b_f5 := (show Blk wr (w.heap.size + 1 + 1) 33 #[.int .i64 I.kind, .int .i64 I.cap, .slice D1 I.items.length d1, .slice D2 I.cost.length d2, .int .i64 I.size, .slice D3 I.sets.length d3] from HC.out.blk).frozen 5
    by_cases hlt : i < I.cost.length
    · obtain ⟨r, hr⟩ : ∃ r, I.cost[i]? = some r := ⟨_, List.getElem?_eq_getElem hlt⟩
      obtain ⟨u, hu⟩ : ∃ u, us[i]? = some u := ⟨_, List.getElem?_eq_getElem (by have := HC.out.len; omega)⟩
      obtain ⟨X, cx, rfl, x1, x2, x3⟩ := HC.out.old i r u hr hu (Nat.le_refl _)
      obtain ⟨g, rfl, hg0, hgl, hgc, hgf⟩ := own_lt HC.out.row (by omega)
      have hcg := hgc i _ hu
      have hfg := hgf i
      have hbw : B ≤ wr.heap.size := by have := HC.out.size; have := HC.out.bd; omega
      have HQ := Lib.hid (fun w' (hb : Below wr.heap.size wr w') => cloneI_c r X cx w' (x3.keep (Alike.of_below hb hbw)) (HL.out.rows r (List.mem_of_getElem? hr)) (by have := hb.size; omega))
      have HHR := Lib.hid hr
      have i0 : (0 : Int) ≤ (i : Int) := by omega
      have i1 : (i : Int) < (I.cost.length : Int) := by omega
      clear hgc hgf hu x3 hr
      go_wp2_with fail
      go_region_with (first | (go_at_call 35; (with_reducible refine (HQ.out _ (bl_drew (Below.refl _ _))).mono ?_); rintro e q1 ⟨D, d, rfl, ho, hq⟩; have bq : Below wr.heap.size wr q1 := bl_step (bl_drew (Below.refl _ _)) hq; have HC1 := Lib.hid (HC.out.below bq); have hcg1 : q1.cell? ⟨g, i, none⟩ = some (.slice X r.length cx) := (bq.cell (p := ⟨g, i, none⟩) hgl).trans hcg; have hfg1 : q1.frozen? ⟨g, i, none⟩ = false := (bq.frozen (p := ⟨g, i, none⟩) hgl).trans hfg; have hgl1 : g < q1.heap.size := (by have := bq.size; omega); have HV := Lib.hid (own_more ho (show w.heap.size + 3 ≤ wr.drew.heap.size from HC.out.size)); clear hcg hfg ho b_z b_c0 b_f0 b_c1 b_f1 b_c2 b_f2 b_c3 b_f3 b_c4 b_f4 b_c5 b_f5; have c_z : (w.heap.size + 1 + 1) < q1.heap.size := (show Blk q1 (w.heap.size + 1 + 1) 33 #[.int .i64 I.kind, .int .i64 I.cap, .slice D1 I.items.length d1, .slice (some ⟨g, 0, none⟩) I.cost.length d2, .int .i64 I.size, .slice D3 I.sets.length d3] from HC1.out.blk).lt; have c_c0 : q1.cell? ⟨(w.heap.size + 1 + 1), 0, none⟩ = some (.int .i64 I.kind) := ((show Blk q1 (w.heap.size + 1 + 1) 33 #[.int .i64 I.kind, .int .i64 I.cap, .slice D1 I.items.length d1, .slice (some ⟨g, 0, none⟩) I.cost.length d2, .int .i64 I.size, .slice D3 I.sets.length d3] from HC1.out.blk).cell 0).trans rfl; have c_f0 := (show Blk q1 (w.heap.size + 1 + 1) 33 #[.int .i64 I.kind, .int .i64 I.cap, .slice D1 I.items.length d1, .slice (some ⟨g, 0, none⟩) I.cost.length d2, .int .i64 I.size, .slice D3 I.sets.length d3] from HC1.out.blk).frozen 0; have c_c1 : q1.cell? ⟨(w.heap.size + 1 + 1), 1, none⟩ = some (.int .i64 I.cap) := ((show Blk q1 (w.heap.size + 1 + 1) 33 #[.int .i64 I.kind, .int .i64 I.cap, .slice D1 I.items.length d1, .slice (some ⟨g, 0, none⟩) I.cost.length d2, .int .i64 I.size, .slice D3 I.sets.length d3] from HC1.out.blk).cell 1).trans rfl; have c_f1 := (show Blk q1 (w.heap.size + 1 + 1) 33 #[.int .i64 I.kind, .int .i64 I.cap, .slice D1 I.items.length d1, .slice (some ⟨g, 0, none⟩) I.cost.length d2, .int .i64 I.size, .slice D3 I.sets.length d3] from HC1.out.blk).frozen 1; have c_c2 : q1.cell? ⟨(w.heap.size + 1 + 1), 2, none⟩ = some (.slice D1 I.items.length d1) := ((show Blk q1 (w.heap.size + 1 + 1) 33 #[.int .i64 I.kind, .int .i64 I.cap, .slice D1 I.items.length d1, .slice (some ⟨g, 0, none⟩) I.cost.length d2, .int .i64 I.size, .slice D3 I.sets.length d3] from HC1.out.blk).cell 2).trans rfl; have c_f2 := (show Blk q1 (w.heap.size + 1 + 1) 33 #[.int .i64 I.kind, .int .i64 I.cap, .slice D1 I.items.length d1, .slice (some ⟨g, 0, none⟩) I.cost.length d2, .int .i64 I.size, .slice D3 I.sets.length d3] from HC1.out.blk).frozen 2; have c_c3 : q1.cell? ⟨(w.heap.size + 1 + 1), 3, none⟩ = some (.slice (some ⟨g, 0, none⟩) I.cost.length d2) := ((show Blk q1 (w.heap.size + 1 + 1) 33 #[.int .i64 I.kind, .int .i64 I.cap, .slice D1 I.items.length d1, .slice (some ⟨g, 0, none⟩) I.cost.length d2, .int .i64 I.size, .slice D3 I.sets.length d3] from HC1.out.blk).cell 3).trans rfl; have c_f3 := (show Blk q1 (w.heap.size + 1 + 1) 33 #[.int .i64 I.kind, .int .i64 I.cap, .slice D1 I.items.length d1, .slice (some ⟨g, 0, none⟩) I.cost.length d2, .int .i64 I.size, .slice D3 I.sets.length d3] from HC1.out.blk).frozen 3; have c_c4 : q1.cell? ⟨(w.heap.size + 1 + 1), 4, none⟩ = some (.int .i64 I.size) := ((show Blk q1 (w.heap.size + 1 + 1) 33 #[.int .i64 I.kind, .int .i64 I.cap, .slice D1 I.items.length d1, .slice (some ⟨g, 0, none⟩) I.cost.length d2, .int .i64 I.size, .slice D3 I.sets.length d3] from HC1.out.blk).cell 4).trans rfl; have c_f4 := (show Blk q1 (w.heap.size + 1 + 1) 33 #[.int .i64 I.kind, .int .i64 I.cap, .slice D1 I.items.length d1, .slice (some ⟨g, 0, none⟩) I.cost.length d2, .int .i64 I.size, .slice D3 I.sets.length d3] from HC1.out.blk).frozen 4; have c_c5 : q1.cell? ⟨(w.heap.size + 1 + 1), 5, none⟩ = some (.slice D3 I.sets.length d3) := ((show Blk q1 (w.heap.size + 1 + 1) 33 #[.int .i64 I.kind, .int .i64 I.cap, .slice D1 I.items.length d1, .slice (some ⟨g, 0, none⟩) I.cost.length d2, .int .i64 I.size, .slice D3 I.sets.length d3] from HC1.out.blk).cell 5).trans rfl; have c_f5 := (show Blk q1 (w.heap.size + 1 + 1) 33 #[.int .i64 I.kind, .int .i64 I.cap, .slice D1 I.items.length d1, .slice (some ⟨g, 0, none⟩) I.cost.length d2, .int .i64 I.size, .slice D3 I.sets.length d3] from HC1.out.blk).frozen 5))
      all_goals (go_wp2_with fail; go_roundw; (case rel => exact ⟨i + 1, us.set i (.slice D r.length d), by go_num, by omega, Lib.hid (HC1.out.step HHR.out rfl HV.out)⟩); (case measure => simp only [intOf]; omega))
    · obtain rfl : i = I.cost.length := by omega
      clear hlt hi
      go_wp2_with fail
      go_loopw [39] (fun vi wr => ∃ (j : Nat) (ws : List (Value × Value)), vi = .int .i64 j ∧ j ≤ I.sets.length ∧ Hid (CpR wr w B I D1 d1 D2 d2 D3 d3 I.cost.length us j ws)) (fun vi _ => I.sets.length - (intOf vi).toNat)
      case atStart => exact ⟨0, ws, rfl, Nat.zero_le _, HC⟩
      case round =>
        clear HC b_z b_c0 b_f0 b_c1 b_f1 b_c2 b_f2 b_c3 b_f3 b_c4 b_f4 b_c5 b_f5
        obtain ⟨j, ws, rfl, hj, HC⟩ := hrel
        have d_z : (w.heap.size + 1 + 1) < wr.heap.size := (show Blk wr (w.heap.size + 1 + 1) 33 #[.int .i64 I.kind, .int .i64 I.cap, .slice D1 I.items.length d1, .slice D2 I.cost.length d2, .int .i64 I.size, .slice D3 I.sets.length d3] from HC.out.blk).lt
        have d_c0 : wr.cell? ⟨(w.heap.size + 1 + 1), 0, none⟩ = some (.int .i64 I.kind) := ((show Blk wr (w.heap.size + 1 + 1) 33 #[.int .i64 I.kind, .int .i64 I.cap, .slice D1 I.items.length d1, .slice D2 I.cost.length d2, .int .i64 I.size, .slice D3 I.sets.length d3] from HC.out.blk).cell 0).trans rfl
        have d_f0 := (show Blk wr (w.heap.size + 1 + 1) 33 #[.int .i64 I.kind, .int .i64 I.cap, .slice D1 I.items.length d1, .slice D2 I.cost.length d2, .int .i64 I.size, .slice D3 I.sets.length d3] from HC.out.blk).frozen 0
        have d_c1 : wr.cell? ⟨(w.heap.size + 1 + 1), 1, none⟩ = some (.int .i64 I.cap) := ((show Blk wr (w.heap.size + 1 + 1) 33 #[.int .i64 I.kind, .int .i64 I.cap, .slice D1 I.items.length d1, .slice D2 I.cost.length d2, .int .i64 I.size, .slice D3 I.sets.length d3] from HC.out.blk).cell 1).trans rfl
        have d_f1 := (show Blk wr (w.heap.size + 1 + 1) 33 #[.int .i64 I.kind, .int .i64 I.cap, .slice D1 I.items.length d1, .slice D2 I.cost.length d2, .int .i64 I.size, .slice D3 I.sets.length d3] from HC.out.blk).frozen 1
        have d_c2 : wr.cell? ⟨(w.heap.size + 1 + 1), 2, none⟩ = some (.slice D1 I.items.length d1) := ((show Blk wr (w.heap.size + 1 + 1) 33 #[.int .i64 I.kind, .int .i64 I.cap, .slice D1 I.items.length d1, .slice D2 I.cost.length d2, .int .i64 I.size, .slice D3 I.sets.length d3] from HC.out.blk).cell 2).trans rfl
        have d_f2 := (show Blk wr (w.heap.size + 1 + 1) 33 #[.int .i64 I.kind, .int .i64 I.cap, .slice D1 I.items.length d1, .slice D2 I.cost.length d2, .int .i64 I.size, .slice D3 I.sets.length d3] from HC.out.blk).frozen 2
        have d_c3 : wr.cell? ⟨(w.heap.size + 1 + 1), 3, none⟩ = some (.slice D2 I.cost.length d2) := ((show Blk wr (w.heap.size + 1 + 1) 33 #[.int .i64 I.kind, .int .i64 I.cap, .slice D1 I.items.length d1, .slice D2 I.cost.length d2, .int .i64 I.size, .slice D3 I.sets.length d3] from HC.out.blk).cell 3).trans rfl
        have d_f3 := (show Blk wr (w.heap.size + 1 + 1) 33 #[.int .i64 I.kind, .int .i64 I.cap, .slice D1 I.items.length d1, .slice D2 I.cost.length d2, .int .i64 I.size, .slice D3 I.sets.length d3] from HC.out.blk).frozen 3
        have d_c4 : wr.cell? ⟨(w.heap.size + 1 + 1), 4, none⟩ = some (.int .i64 I.size) := ((show Blk wr (w.heap.size + 1 + 1) 33 #[.int .i64 I.kind, .int .i64 I.cap, .slice D1 I.items.length d1, .slice D2 I.cost.length d2, .int .i64 I.size, .slice D3 I.sets.length d3] from HC.out.blk).cell 4).trans rfl
        have d_f4 := (show Blk wr (w.heap.size + 1 + 1) 33 #[.int .i64 I.kind, .int .i64 I.cap, .slice D1 I.items.length d1, .slice D2 I.cost.length d2, .int .i64 I.size, .slice D3 I.sets.length d3] from HC.out.blk).frozen 4
        have d_c5 : wr.cell? ⟨(w.heap.size + 1 + 1), 5, none⟩ = some (.slice D3 I.sets.length d3) := ((show Blk wr (w.heap.size + 1 + 1) 33 #[.int .i64 I.kind, .int .i64 I.cap, .slice D1 I.items.length d1, .slice D2 I.cost.length d2, .int .i64 I.size, .slice D3 I.sets.length d3] from HC.out.blk).cell 5).trans rfl
        have d_f5 := (show Blk wr (w.heap.size + 1 + 1) 33 #[.int .i64 I.kind, .int .i64 I.cap, .slice D1 I.items.length d1, .slice D2 I.cost.length d2, .int .i64 I.size, .slice D3 I.sets.length d3] from HC.out.blk).frozen 5
        by_cases hlt : j < I.sets.length
        · obtain ⟨p, hp⟩ : ∃ p, I.sets[j]? = some p := ⟨_, List.getElem?_eq_getElem hlt⟩
          obtain ⟨u, hu⟩ : ∃ u, ws[j]? = some u := ⟨_, List.getElem?_eq_getElem (by have := HC.out.wlen; omega)⟩
          have hf1 := HC.out.fst j p u hp hu
          obtain ⟨X, cx, hux, x1, x2, x3⟩ := HC.out.sold j p u hp hu (Nat.le_refl _)
          obtain ⟨g, rfl, hg0, hgl, hgc, hgf⟩ := own_lt HC.out.set_ (by omega)
          obtain ⟨f1, f2⟩ := flat2_get ws j u hu
          have hcg := hgc _ _ f2
          rw [hux] at hcg
          have hfg := hgf (j * 2 + 1)
          have hbw : B ≤ wr.heap.size := by have := HC.out.size; have := HC.out.bd; omega
          have HQ := Lib.hid (fun w' (hb : Below wr.heap.size wr w') => cloneN_c p.2 X cx w' (x3.keep (Alike.of_below hb hbw)) (HL.out.elems p (List.mem_of_getElem? hp)) (by have := hb.size; omega))
          have HHR := Lib.hid hp
          have HHU := Lib.hid hu
          have i0 : (0 : Int) ≤ (j : Int) := by omega
          have i1 : (j : Int) < (I.sets.length : Int) := by omega
          clear hgc hgf hu x3 hp f1 f2 hux hf1
          go_wp2_with fail
          go_region_with (first | (go_at_call 36; (with_reducible refine (HQ.out _ (bl_drew (Below.refl _ _))).mono ?_); rintro e q1 ⟨D, d, rfl, ho, hq⟩; have bq : Below wr.heap.size wr q1 := bl_step (bl_drew (Below.refl _ _)) hq; have HC1 := Lib.hid (HC.out.below bq); have hcg1 : q1.cell? ⟨g, j * 2 + 1, none⟩ = some (.slice X p.2.length cx) := (bq.cell (p := ⟨g, j * 2 + 1, none⟩) hgl).trans hcg; have hfg1 : q1.frozen? ⟨g, j * 2 + 1, none⟩ = false := (bq.frozen (p := ⟨g, j * 2 + 1, none⟩) hgl).trans hfg; have hgl1 : g < q1.heap.size := (by have := bq.size; omega); have HV := Lib.hid (own_more ho (show w.heap.size + 3 ≤ wr.drew.heap.size from HC.out.size)); clear hcg hfg ho d_z d_c0 d_f0 d_c1 d_f1 d_c2 d_f2 d_c3 d_f3 d_c4 d_f4 d_c5 d_f5; have e_z : (w.heap.size + 1 + 1) < q1.heap.size := (show Blk q1 (w.heap.size + 1 + 1) 33 #[.int .i64 I.kind, .int .i64 I.cap, .slice D1 I.items.length d1, .slice D2 I.cost.length d2, .int .i64 I.size, .slice (some ⟨g, 0, none⟩) I.sets.length d3] from HC1.out.blk).lt; have e_c0 : q1.cell? ⟨(w.heap.size + 1 + 1), 0, none⟩ = some (.int .i64 I.kind) := ((show Blk q1 (w.heap.size + 1 + 1) 33 #[.int .i64 I.kind, .int .i64 I.cap, .slice D1 I.items.length d1, .slice D2 I.cost.length d2, .int .i64 I.size, .slice (some ⟨g, 0, none⟩) I.sets.length d3] from HC1.out.blk).cell 0).trans rfl; have e_f0 := (show Blk q1 (w.heap.size + 1 + 1) 33 #[.int .i64 I.kind, .int .i64 I.cap, .slice D1 I.items.length d1, .slice D2 I.cost.length d2, .int .i64 I.size, .slice (some ⟨g, 0, none⟩) I.sets.length d3] from HC1.out.blk).frozen 0; have e_c1 : q1.cell? ⟨(w.heap.size + 1 + 1), 1, none⟩ = some (.int .i64 I.cap) := ((show Blk q1 (w.heap.size + 1 + 1) 33 #[.int .i64 I.kind, .int .i64 I.cap, .slice D1 I.items.length d1, .slice D2 I.cost.length d2, .int .i64 I.size, .slice (some ⟨g, 0, none⟩) I.sets.length d3] from HC1.out.blk).cell 1).trans rfl; have e_f1 := (show Blk q1 (w.heap.size + 1 + 1) 33 #[.int .i64 I.kind, .int .i64 I.cap, .slice D1 I.items.length d1, .slice D2 I.cost.length d2, .int .i64 I.size, .slice (some ⟨g, 0, none⟩) I.sets.length d3] from HC1.out.blk).frozen 1; have e_c2 : q1.cell? ⟨(w.heap.size + 1 + 1), 2, none⟩ = some (.slice D1 I.items.length d1) := ((show Blk q1 (w.heap.size + 1 + 1) 33 #[.int .i64 I.kind, .int .i64 I.cap, .slice D1 I.items.length d1, .slice D2 I.cost.length d2, .int .i64 I.size, .slice (some ⟨g, 0, none⟩) I.sets.length d3] from HC1.out.blk).cell 2).trans rfl; have e_f2 := (show Blk q1 (w.heap.size + 1 + 1) 33 #[.int .i64 I.kind, .int .i64 I.cap, .slice D1 I.items.length d1, .slice D2 I.cost.length d2, .int .i64 I.size, .slice (some ⟨g, 0, none⟩) I.sets.length d3] from HC1.out.blk).frozen 2; have e_c3 : q1.cell? ⟨(w.heap.size + 1 + 1), 3, none⟩ = some (.slice D2 I.cost.length d2) := ((show Blk q1 (w.heap.size + 1 + 1) 33 #[.int .i64 I.kind, .int .i64 I.cap, .slice D1 I.items.length d1, .slice D2 I.cost.length d2, .int .i64 I.size, .slice (some ⟨g, 0, none⟩) I.sets.length d3] from HC1.out.blk).cell 3).trans rfl; have e_f3 := (show Blk q1 (w.heap.size + 1 + 1) 33 #[.int .i64 I.kind, .int .i64 I.cap, .slice D1 I.items.length d1, .slice D2 I.cost.length d2, .int .i64 I.size, .slice (some ⟨g, 0, none⟩) I.sets.length d3] from HC1.out.blk).frozen 3; have e_c4 : q1.cell? ⟨(w.heap.size + 1 + 1), 4, none⟩ = some (.int .i64 I.size) := ((show Blk q1 (w.heap.size + 1 + 1) 33 #[.int .i64 I.kind, .int .i64 I.cap, .slice D1 I.items.length d1, .slice D2 I.cost.length d2, .int .i64 I.size, .slice (some ⟨g, 0, none⟩) I.sets.length d3] from HC1.out.blk).cell 4).trans rfl; have e_f4 := (show Blk q1 (w.heap.size + 1 + 1) 33 #[.int .i64 I.kind, .int .i64 I.cap, .slice D1 I.items.length d1, .slice D2 I.cost.length d2, .int .i64 I.size, .slice (some ⟨g, 0, none⟩) I.sets.length d3] from HC1.out.blk).frozen 4; have e_c5 : q1.cell? ⟨(w.heap.size + 1 + 1), 5, none⟩ = some (.slice (some ⟨g, 0, none⟩) I.sets.length d3) := ((show Blk q1 (w.heap.size + 1 + 1) 33 #[.int .i64 I.kind, .int .i64 I.cap, .slice D1 I.items.length d1, .slice D2 I.cost.length d2, .int .i64 I.size, .slice (some ⟨g, 0, none⟩) I.sets.length d3] from HC1.out.blk).cell 5).trans rfl; have e_f5 := (show Blk q1 (w.heap.size + 1 + 1) 33 #[.int .i64 I.kind, .int .i64 I.cap, .slice D1 I.items.length d1, .slice D2 I.cost.length d2, .int .i64 I.size, .slice (some ⟨g, 0, none⟩) I.sets.length d3] from HC1.out.blk).frozen 5))
          all_goals (go_wp2_with fail; go_roundw; (case rel => exact ⟨j + 1, ws.set j (u.1, .slice D p.2.length d), by go_num, by omega, Lib.hid (HC1.out.sstep HHR.out HHU.out rfl HV.out rfl)⟩); (case measure => simp only [intOf]; omega))
        · obtain rfl : j = I.sets.length := by omega
          have HO := Lib.hid (HC.out.done HI.out.in_)
          have r_z : (w.heap.size + 1) < wr.heap.size := HC.out.res.lt
          have r_c0 : wr.cell? ⟨(w.heap.size + 1), 0, none⟩ = some (.int .i64 0) := (HC.out.res.cell 0).trans rfl
          have r_f0 := HC.out.res.frozen 0
          have r_c1 : wr.cell? ⟨(w.heap.size + 1), 1, none⟩ = some (.int .i64 0) := (HC.out.res.cell 1).trans rfl
          have r_f1 := HC.out.res.frozen 1
          have r_c2 : wr.cell? ⟨(w.heap.size + 1), 2, none⟩ = some (.slice none 0 0) := (HC.out.res.cell 2).trans rfl
          have r_f2 := HC.out.res.frozen 2
          have r_c3 : wr.cell? ⟨(w.heap.size + 1), 3, none⟩ = some (.slice none 0 0) := (HC.out.res.cell 3).trans rfl
          have r_f3 := HC.out.res.frozen 3
          have r_c4 : wr.cell? ⟨(w.heap.size + 1), 4, none⟩ = some (.int .i64 0) := (HC.out.res.cell 4).trans rfl
          have r_f4 := HC.out.res.frozen 4
          have r_c5 : wr.cell? ⟨(w.heap.size + 1), 5, none⟩ = some (.slice none 0 0) := (HC.out.res.cell 5).trans rfl
          have r_f5 := HC.out.res.frozen 5
          go_wp2
          refine bodyPost_ret (v := .agg #[.int .i64 I.kind, .int .i64 I.cap, .slice D1 I.items.length d1, .slice D2 I.cost.length d2, .int .i64 I.size, .slice D3 I.sets.length d3]) (by simp [results, Tryd.results17, go_sem, r_c0, r_f0, r_c1, r_f1, r_c2, r_f2, r_c3, r_f3, r_c4, r_f4, r_c5, r_f5, r_z]) rfl ⟨D1, d1, D2, d2, D3, d3, rfl, ?_, ?_⟩
          · exact (((((HO.out.set (by show w.heap.size + 1 < _; omega) _).set (by show w.heap.size + 1 < _; omega) _).set (by show w.heap.size + 1 < _; omega) _).set (by show w.heap.size + 1 < _; omega) _).set (by show w.heap.size + 1 < _; omega) _).set (by show w.heap.size + 1 < _; omega) _
          · exact bl_set (bl_set (bl_set (bl_set (bl_set (bl_set HC.out.b (by simp) _) (by simp) _) (by simp) _) (by simp) _) (by simp) _) (by simp) _
end Go.Proofs.YteddbdmddgmicaaDoor
