/- Sum; append of a list; Grow and Concat. -/
import Derived.Test.YtamfhommmogknaaDN
import Derived.Test.YtamfhommmogknaaNT
import Derived.Lib.AppendZerosOnto
import Derived.ArgAppend
namespace Go.Proofs.Ytamfhommmogknaa
open Go Go.RowKit
set_option linter.unusedVariables false
set_option linter.unusedSimpArgs false
set_option maxRecDepth 100000

set_option maxHeartbeats 800000 in
theorem NSum_any (A : Option Addr) (c : Nat) (l : List Int) (w : World) (hl : l.length ≤ 1000000) (hw : ∀ x ∈ l, InI x)
    (hr : 0 < l.length → ∃ ad, A = some ad ∧ ∀ j u, l[j]? = some u → w.cell? (ad.add j) = some (.int .i64 u)) :
    Calls Try.prog 29 #[.slice A l.length c] w fun e w' => e = .returned (.tuple #[.int .i64 (fitN l.sum), .bool (fitB l.sum)]) ∧ Below w.heap.size w w' := by
  have HT := Lib.hid (total_any A c l w hl hw hr)
  clear hr hw
  go_enter Try.func29, Try.ntmps29
  go_wp2_with fail
  refine HT.out.mono ?_; rintro e w1 ⟨n1, h1, l1, rfl, k1, hb1⟩
  go_wp2_with fail
  refine (short_any _ _ _ _ _ k1).mono ?_; rintro e w2 ⟨rfl, hb2⟩
  go_wp2
  go_ret2
  exact ⟨rfl, bl_step hb1 hb2⟩

section
variable {P : Program} (w : World)
theorem run_append_of_nil (base : Nat) (t ty e : TypeId) (i : TypeInfo) (size : Nat) (ht : P.underlying t = some (.slice e)) (hi : P.info? e = some i)
    (v : Value) (n : Nat) (xs : List Value) (hown : w.ownsRow base e size v n xs) (c : Nat) : (Builtin.append_ #[t, t] ty #[v, .slice none 0 c]).run P w = .ok v w := by
  rcases hown.2 with ⟨rfl, rfl⟩ | ⟨g, cap, cur, rfl, _, _, hnc, _⟩
  · simp [Builtin.append_, run_underlying ht, sizeOf, typeInfo, hi, Builtin.lenOf, Builtin.firstCells]
  · simp [Builtin.append_, run_underlying ht, sizeOf, typeInfo, hi, Builtin.lenOf, Builtin.firstCells, hnc, storeCells]
theorem run_append_any (base : Nat) (t ty e : TypeId) (i : TypeInfo) (z : Value) (size bytes : Nat) (ht : P.underlying t = some (.slice e)) (hi : P.info? e = some i) (hz : i.zero = some z)
    (hsize : i.size = size) (hby : i.bytes = bytes) (hzs : z.cells.size = size) (hsz : 0 < size)
    (v : Value) (n : Nat) (xs : List Value) (hown : w.ownsRow base e size v n xs)
    (B : Nat) (A : Option Addr) (m c : Nat) (news : List Value) (hr : Reads w B size A m news) (h1 : ∀ u ∈ news, u.oneCell' = true)
    (h63 : n + m ≤ maxLen) (hbytes : (n + m) * bytes ≤ 140737488355328) (hbase : base ≤ w.heap.size) :
    ∃ v' w', (Builtin.append_ #[t, t] ty #[v, .slice A m c]).run P w = .ok v' w' ∧ w'.ownsRow base e size v' (n + m) (xs ++ news) ∧ w.grownBy w' v.ownBlock ∧
      (v'.ownBlock = v.ownBlock ∨ v'.ownBlock = some w.heap.size) := by
  rcases A with _ | ad
  · have hm : m = 0 := by
      rcases Nat.eq_zero_or_pos m with h0 | h0
      · exact h0
      · obtain ⟨b, o, h, _⟩ := hr.at_ h0
        cases h
    subst hm
    have hn : news = [] := List.eq_nil_of_length_eq_zero (by simpa using hr.len)
    subst hn
    exact ⟨v, w, run_append_of_nil w base t ty e i size ht hi v n xs hown c, by simpa using hown, World.grownBy.refl w _, .inl rfl⟩
  · have hcells : ∀ j u, news[j]? = some u → w.cell? (ad.add j) = some u := by
      intro j u hu
      rcases Nat.eq_zero_or_pos m with h0 | h0
      · subst h0
        have hn : news = [] := List.eq_nil_of_length_eq_zero (by simpa using hr.len)
        subst hn
        simp at hu
      · obtain ⟨b, o, h, _, hc⟩ := hr.at_ h0
        injection h with h
        subst h
        rw [show ((⟨b, o, none⟩ : Addr).add j) = ⟨b, o + j, none⟩ by unfold Addr.add; split <;> simp_all]
        exact hc j u hu
    obtain ⟨v', w', hrun, h2, h3, _, h5⟩ := run_append_own_at (P := P) w base t ty e i z size bytes ht hi hz hsize hby hzs hsz v n xs hown ad m c news hr.len hcells h1 h63 hbytes hbase
    exact ⟨v', w', hrun, h2, h3, h5⟩
end
theorem run_app {P : Program} {w : World} {base : Nat} {t ty e : TypeId} {z : Value} {size bytes : Nat} (ht : P.underlying t = some (.slice e)) (hinfo : (P.info? e).map (fun i => (i.zero, i.size, i.bytes)) = some (some z, size, bytes)) (hzs : z.cells.size = size) (hsz : 0 < size)
    {v : Value} {n : Nat} {xs : List Value} (hown : w.ownsRow base e size v n xs) {B : Nat} {A : Option Addr} {m c : Nat} {news : List Value} (hr : Reads w B size A m news) (h1 : ∀ u ∈ news, u.oneCell' = true)
    (h63 : n + m ≤ maxLen) (hbytes : (n + m) * bytes ≤ 140737488355328) (hbase : base ≤ w.heap.size) :
    ∃ v' w', (Builtin.append_ #[t, t] ty #[v, .slice A m c]).run P w = .ok v' w' ∧ w'.ownsRow base e size v' (n + m) (xs ++ news) ∧ w.grownBy w' v.ownBlock ∧ (v'.ownBlock = v.ownBlock ∨ v'.ownBlock = some w.heap.size) := by
  obtain ⟨i, hi, hzz⟩ := Option.map_eq_some_iff.1 hinfo
  simp only [Prod.mk.injEq] at hzz
  obtain ⟨hz, hsize, hby⟩ := hzz
  exact run_append_any (P := P) w base t ty e i z size bytes ht hi hz hsize hby hzs hsz v n xs hown B A m c news hr h1 h63 hbytes hbase
theorem list_app {P : Program} {ops : Array Oper} {o : Oper} {rest : List Oper} {a : Act} {Q : Exit → Act → World → Prop} {w w' : World} {v' : Value} (hgd : o.guard = none) (s x : Operand) (t1 t2 : TypeId)
    (ho : o.op = .call { callee := .builtin .append, args := #[s, x], argTypes := #[t1, t2] }) (hrun : (Builtin.append_ #[t1, t2] o.type #[a.eval s, a.eval x]).run P w = .ok v' w') (h : wpList P ops Q rest (a.put o.dst v') w') :
    wpList P ops Q (o :: rest) a w := by
  refine wpList_plain hgd fun K hK' => ?_
  unfold Oper.wp execOp
  simp only [ho, resolve, invoke, builtin, Sem.run_bind, Sem.run_pure, Result.andThen_ok, List.map_toArray, List.map_cons, List.map_nil, hrun]
  exact hK' _ _ h
set_option maxHeartbeats 3200000 in
/-- Grow of no slice: a row of its own, with nothing in it yet. -/
theorem grow_any (n : Nat) (hn : n ≤ 1000) (w : World) : Calls Try.prog 31 #[.slice none 0 0, .int .i64 (n : Nat)] w fun e w' => ∃ v, e = .returned v ∧ w'.ownsRow w.heap.size 2 1 v 0 [] ∧ Below w.heap.size w w' := by
  by_cases h0 : n = 0
  · subst h0
    go_enter Try.func31, Try.ntmps31
    go_wp2
    go_ret
    exact ⟨_, rfl, own_nil _ _ _ _, Below.refl _ _⟩
  · have n0 : ¬ (n : Int) < 0 := by omega
    have n1 : (0 : Int) < (n : Int) := by omega
    have n2 : 0 < n := by omega
    obtain ⟨ii, hii, hiz⟩ := Option.map_eq_some_iff.1 info_I
    simp only [Prod.mk.injEq] at hiz
    obtain ⟨z1, z2, z3⟩ := hiz
    have hold : (Builtin.firstCells ii.size 0 (.slice none 0 0)).run Try.prog w.drew = .ok (#[] : Array Value) w.drew := rfl
    have hr := Lib.run_append_grow_zeros (P := Try.prog) w 29 3 29 2 ii _ .i64 .i64 Try.underlying29 Try.underlying3 hii z1 none 0 0 [] hold n n2 (by rw [z2]; omega) (by omega) (by omega) (by rw [z3]; omega) (by rw [z3, show Builtin.nextslicecap (0 + n) 0 = n by unfold Builtin.nextslicecap; rw [if_pos (by omega)]; omega]; omega)
    go_enter Try.func31, Try.ntmps31
    go_wp2_with (at_builtin; refine list_app rfl (.tmp 20) (.tmp 21) 29 3 rfl (by exact hr) ?_)
    go_ret
    refine ⟨_, rfl, ⟨rfl, .inr ⟨w.heap.size, grownCap w n 0 2, _, rfl, Nat.le_refl _, heap_alloc_new w _, Nat.zero_le _, grownCap_le_maxLen w n 0 _ (by unfold maxLen; omega), ?_, by simp⟩⟩, bl_drew (bl_alloc (Below.refl _ _) _)⟩
    have := grownCap_ge w n 0 2
    simp [Builtin.zeroCells]
    omega
theorem grow_z (z : Int) (n : Nat) (hz : z = (n : Int)) (hn : n ≤ 1000) (w : World) : Calls Try.prog 31 #[.slice none 0 0, .int .i64 z] w fun e w' => ∃ v, e = .returned v ∧ w'.ownsRow w.heap.size 2 1 v 0 [] ∧ Below w.heap.size w w' := by
  subst hz
  exact grow_any n hn w
set_option maxHeartbeats 6400000 in
/-- Concat of two lists. -/
theorem concat_any (r l : List Int) (R C : Option Addr) (rc cc g : Nat) (t0 : TypeId) (w : World) {B : Nat} (hb : Blk w g t0 #[.slice R r.length rc, .slice C l.length cc]) (hr : RdI w B R r) (hl : RdI w B C l) (hB : B ≤ w.heap.size) (h1 : r.length ≤ 400) (h2 : l.length ≤ 400) :
    Calls Try.prog 26 #[.slice (some ⟨g, 0, none⟩) 2 2] w fun e w' => ∃ V v, e = .returned (.slice V (r.length + l.length) v) ∧ w'.ownsRow w.heap.size 2 1 (.slice V (r.length + l.length) v) (r.length + l.length) ((r ++ l).map (Value.int .i64)) ∧ Below w.heap.size w w' := by
  have HBK := Lib.hid hb
  have HR := Lib.hid hr
  have HL := Lib.hid hl
  clear hb hr hl
  go_enter Try.func26, Try.ntmps26
  go_wp2_with fail
  go_loopw [3, 11] (fun vz vi wr => ∃ (i z : Int), vi = .int .i64 i ∧ vz = .int .i64 z ∧ ((i = 0 ∧ z = 0) ∨ (i = 1 ∧ z = (r.length : Int)) ∨ (i = 2 ∧ z = (r.length : Int) + (l.length : Int))) ∧ Hid (Below w.heap.size w wr)) (fun _ vi _ => 2 - (intOf vi).toNat)
  case atStart => exact ⟨0, 0, rfl, rfl, .inl ⟨rfl, rfl⟩, Lib.hid (Below.refl _ _)⟩
  case round =>
    obtain ⟨i, z, rfl, rfl, hi, HW⟩ := hrel
    have Bw := HBK.out.below HW.out
    have x_z : g < wr.heap.size := Bw.lt
    have x_c0 : wr.cell? ⟨g, 0, none⟩ = some (.slice R r.length rc) := (Bw.cell 0).trans rfl
    have x_f0 := Bw.frozen 0
    have x_c1 : wr.cell? ⟨g, 1, none⟩ = some (.slice C l.length cc) := (Bw.cell 1).trans rfl
    have x_f1 := Bw.frozen 1
    rcases hi with ⟨rfl, rfl⟩ | ⟨rfl, rfl⟩ | ⟨rfl, rfl⟩
    · go_wp2_with fail
      go_roundw
      case rel => exact ⟨1, (r.length : Int), rfl, rfl, by omega, HW⟩
      case measure => simp [intOf]
    · go_wp2_with fail
      go_roundw
      case rel => exact ⟨2, (r.length : Int) + (l.length : Int), rfl, rfl, by omega, HW⟩
      case measure => simp [intOf]
    · go_wp2_with fail
      (with_reducible refine (grow_z _ (r.length + l.length) (by omega) (by omega) _).mono ?_); rintro e v1 ⟨v0, rfl, hown, hb1⟩
      have HO0 := Lib.hid (own_more hown HW.out.size)
      have HW1 := Lib.hid (bl_step HW.out hb1)
      clear hown hb1 x_z x_c0 x_f0 x_c1 x_f1 Bw HW
      go_wp2_with fail
      go_loopw [6, 27] (fun v6 vi wr => ∃ (i : Int), vi = .int .i64 i ∧ Hid (Below w.heap.size w wr) ∧ Hid ((i = 0 ∧ wr.ownsRow w.heap.size 2 1 v6 0 []) ∨ (i = 1 ∧ wr.ownsRow w.heap.size 2 1 v6 r.length (r.map (Value.int .i64))) ∨ (i = 2 ∧ wr.ownsRow w.heap.size 2 1 v6 (r.length + l.length) ((r ++ l).map (Value.int .i64))))) (fun _ vi _ => 2 - (intOf vi).toNat)
      case atStart => exact ⟨0, rfl, HW1, Lib.hid (.inl ⟨rfl, HO0.out⟩)⟩
      case round =>
        clear HO0 HW1
        obtain ⟨i, rfl, HW, HO⟩ := hrel
        have Bw := HBK.out.below HW.out
        have bs1 : w.heap.size ≤ wr.heap.size := HW.out.size
        have y_z : g < wr.heap.size := Bw.lt
        have y_c0 : wr.cell? ⟨g, 0, none⟩ = some (.slice R r.length rc) := (Bw.cell 0).trans rfl
        have y_f0 := Bw.frozen 0
        have y_c1 : wr.cell? ⟨g, 1, none⟩ = some (.slice C l.length cc) := (Bw.cell 1).trans rfl
        have y_f1 := Bw.frozen 1
        rcases HO.out with ⟨rfl, ho⟩ | ⟨rfl, ho⟩ | ⟨rfl, ho⟩
        · obtain ⟨v', w', ra, ho2, hg, _⟩ := run_app (ty := 29) (c := rc) Try.underlying29 info_I rfl (by omega) ho (HR.out.keep (Alike.of_below HW.out hB)) (one_map r) (by unfold maxLen; omega) (by omega) bs1
          rw [Nat.zero_add, List.nil_append] at ho2
          have HN := Lib.hid (bl_grown HW.out hg (fun k hk => own_base ho k hk))
          have HO2 := Lib.hid ho2
          clear ho ho2 hg
          go_wp2_with (at_builtin; refine list_app rfl (.tmp 31) (.tmp 32) 29 29 rfl (by exact ra) ?_)
          go_roundw
          case rel => exact ⟨1, rfl, HN, Lib.hid (.inr (.inl ⟨rfl, HO2.out⟩))⟩
          case measure => simp [intOf]
        · obtain ⟨v', w', ra, ho2, hg, _⟩ := run_app (ty := 29) (c := cc) Try.underlying29 info_I rfl (by omega) ho (HL.out.keep (Alike.of_below HW.out hB)) (one_map l) (by unfold maxLen; omega) (by omega) bs1
          rw [← List.map_append] at ho2
          have HN := Lib.hid (bl_grown HW.out hg (fun k hk => own_base ho k hk))
          have HO2 := Lib.hid ho2
          clear ho ho2 hg
          go_wp2_with (at_builtin; refine list_app rfl (.tmp 31) (.tmp 32) 29 29 rfl (by exact ra) ?_)
          go_roundw
          case rel => exact ⟨2, rfl, HN, Lib.hid (.inr (.inr ⟨rfl, HO2.out⟩))⟩
          case measure => simp [intOf]
        · obtain ⟨V, v, rfl, _⟩ := own_slice ho
          have HO2 := Lib.hid ho
          clear ho
          go_wp2
          go_ret
          exact ⟨V, v, rfl, by first | exact HO2.out | (rw [← List.map_append]; exact HO2.out), HW.out⟩
end Go.Proofs.Ytamfhommmogknaa
