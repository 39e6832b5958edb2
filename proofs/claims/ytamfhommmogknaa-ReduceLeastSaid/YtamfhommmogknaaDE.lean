/- The numbers of lines, as a list; the second closure. -/
import Derived.Test.YtamfhommmogknaaDD
import Derived.Test.YtamfhommmogknaaMem2
import Derived.Deep.RegionHeld3
namespace Go.Proofs.Ytamfhommmogknaa
open Go Go.RowKit
set_option linter.unusedVariables false
set_option linter.unusedSimpArgs false
set_option maxRecDepth 100000

theorem info_I : (Try.prog.info? 2).map (fun i => (i.zero, i.size, i.bytes)) = some (some (.int .i64 0), 1, 8) := by kernel_rfl
theorem own_mut {w w' : World} {g base : Nat} {e : TypeId} {s n : Nat} {v : Value} {xs : List Value} (h : w.ownsRow base e s v n xs) (k : Mut g w w') (hb : g < base) : w'.ownsRow base e s v n xs := by
  rcases h with ⟨h1, h2 | ⟨g1, cap, cur, hv, hg, hh, hr⟩⟩
  · exact ⟨h1, .inl h2⟩
  · have hl : g1 < w.heap.size := (Array.getElem?_eq_some_iff.1 hh).1
    exact ⟨h1, .inr ⟨g1, cap, cur, hv, hg, (k.up g1 (by omega) hl).trans hh, hr⟩⟩
theorem Mut.up_cell {w w' : World} {g b o : Nat} (k : Mut g w w') (h1 : g < b) (h2 : b < w.heap.size) : w'.cell? ⟨b, o, none⟩ = w.cell? ⟨b, o, none⟩ := by
  unfold World.cell?
  rw [k.up b h1 h2]
/-- The lines' numbers, or nothing. -/
def PrPost (w : World) (ls : List (Int × Bool)) (e : Ending) (w' : World) : Prop :=
  ((∃ D d, e = .returned (.tuple #[.slice D ls.length d, .bool true]) ∧ (∀ p ∈ ls, p.2 = true) ∧ w'.ownsRow w.heap.size 2 1 (.slice D ls.length d) ls.length ((ls.map (·.1)).map (Value.int .i64))) ∨ (e = .returned (.tuple #[.slice none 0 0, .bool false]) ∧ ∃ p ∈ ls, p.2 = false)) ∧ Below w.heap.size w w'
set_option maxHeartbeats 6400000 in
theorem prices_any (w : World) (g : Nat) (ls : List (Int × Bool)) (hL : LinesAt w g ls) (h64 : ls.length ≤ 64) : Calls Try.prog 21 #[.slice (some ⟨g, 0, none⟩) ls.length ls.length] w fun e w' => PrPost w ls e w' := by
  have HL := Lib.hid hL
  clear hL
  go_enter Try.func21, Try.ntmps21
  go_wp2_with fail
  go_loopw [4, 9] (fun vo vi wr => ∃ (i : Nat), vi = .int .i64 i ∧ i ≤ ls.length ∧ Hid (wr.ownsRow w.heap.size 2 1 vo i (((ls.take i).map (·.1)).map (Value.int .i64))) ∧ Hid (∀ (i' : Nat) (p : Int × Bool), i' < i → ls[i']? = some p → p.2 = true) ∧ Hid (Below w.heap.size w wr)) (fun _ vi _ => ls.length - (intOf vi).toNat)
  case atStart => exact ⟨0, rfl, Nat.zero_le _, Lib.hid (own_nil _ _ _ _), Lib.hid (fun i' p h => absurd h (by omega)), Lib.hid (Below.refl _ _)⟩
  case round =>
    obtain ⟨i, rfl, hi, HO, HS, HB⟩ := hrel
    by_cases hlt : i < ls.length
    · obtain ⟨p, hp⟩ : ∃ p, ls[i]? = some p := ⟨_, List.getElem?_eq_getElem hlt⟩
      have HLw : LinesAt wr g ls := Blk.below HL.out HB.out
      obtain ⟨h1, h2⟩ := HLw.get hp
      have fz := HLw.lt
      have i1 : (i : Int) < (ls.length : Int) := by omega
      have i0 : (0 : Int) ≤ (i : Int) := by omega
      obtain ⟨a, s⟩ := p
      have HP := Lib.hid hp
      clear hp HLw
      cases s
      · go_wp2
        go_ret2
        exact ⟨.inr ⟨rfl, _, List.mem_of_getElem? HP.out, rfl⟩, bl_step HB.out (bl_alloc (Below.refl _ _) _)⟩
      · have nb : Below wr.heap.size wr (wr.alloc (.cells #[.int .i64 a, .bool true] 48)) := bl_alloc (Below.refl _ _) _
        have HO2 := own_below HO.out nb
        have bs : w.heap.size ≤ (wr.alloc (.cells #[.int .i64 a, .bool true] 48)).heap.size := by have := HB.out.size; simp; omega
        have hl1 : (i + 1) * 8 ≤ 140737488355328 := by omega
        have B7 : Blk (wr.alloc (.cells #[.int .i64 a, .bool true] 48)) wr.heap.size 48 #[.int .i64 a, .bool true] := Blk.new _ _ _
        have HB2 := Lib.hid (bl_step HB.out nb)
        have hWs : (wr.alloc (.cells #[.int .i64 a, .bool true] 48)).heap.size = wr.heap.size + 1 := by simp
        clear nb
        have x_z : wr.heap.size < (wr.alloc (.cells #[.int .i64 a, .bool true] 48)).heap.size := B7.lt
        have x_c0 : (wr.alloc (.cells #[.int .i64 a, .bool true] 48)).cell? ⟨wr.heap.size, 0, none⟩ = some (.int .i64 a) := (B7.cell 0).trans rfl
        have x_f0 := B7.frozen 0
        have x_c1 : (wr.alloc (.cells #[.int .i64 a, .bool true] 48)).cell? ⟨wr.heap.size, 1, none⟩ = some (.bool true) := (B7.cell 1).trans rfl
        have x_f1 := B7.frozen 1
        go_wp2_with (at_builtin; refine app1b w.heap.size bs rfl (.tmp 16) (.tmp 19) 29 2 (.int .i64 0) 8 rfl Try.underlying29 info_I rfl (by omega) _ i _ (.int .i64 a) rfl (by rw [hWs]; rfl) rfl HO2 hl1 ?_; intro v4 w4 hown4 hg4)
        go_roundw
        case rel => exact ⟨i + 1, by go_num, by omega, Lib.hid (by
            rw [List.take_add_one, HP.out]
            simpa using hown4), Lib.hid (fun i' p' h3 h4 => by
            by_cases h5 : i' < i
            · exact HS.out i' p' h5 h4
            · obtain rfl : i' = i := by omega
              rw [HP.out] at h4
              obtain rfl := Option.some.inj h4
              rfl), Lib.hid (bl_grown HB2.out hg4 (fun k hk => own_base HO2 k hk))⟩
        case measure => simp only [intOf]; omega
    · obtain rfl : i = ls.length := by omega
      rw [List.take_of_length_le (Nat.le_refl _)] at HO
      obtain ⟨D, d, rfl, _⟩ := own_slice HO.out
      clear hlt hi
      go_wp2
      go_ret2
      exact ⟨.inl ⟨D, d, rfl, fun p hp => by obtain ⟨k, hk, rfl⟩ := List.getElem_of_mem hp; exact HS.out k _ hk (List.getElem?_eq_getElem hk), HO.out⟩, HB.out⟩
end Go.Proofs.Ytamfhommmogknaa
