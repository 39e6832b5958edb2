/- The walk of Join. -/
import Derived.Test.YtidpenifabojnaaDoorLI
import Derived.Test.YtidpenifabojnaaDoorLQ
import Derived.Test.YtidpenifabojnaaDoorShelf
namespace Go.Proofs.YtidpenifabojnaaDoor
open Go Go.RowKit
set_option linter.unusedVariables false
set_option linter.unusedSimpArgs false
set_option maxRecDepth 100000

theorem info_S : (Tryd.prog.info? 9).map (fun i => (i.zero, i.size, i.bytes)) = some (some (.string ⟨#[]⟩), 1, 16) := by kernel_rfl
def strV (l : List (List UInt8)) : List Value := l.map fun t => Value.string ⟨t.toArray⟩
theorem tok_snoc {l : List Tok} {k : Nat} {x : Tok} (h : l[k]? = some x) : l.take (k + 1) = l.take k ++ [x] := by
  rw [List.take_add_one, h]
  rfl
/-- strings.Join of a row of texts that the call owns. -/
theorem joined_c (xs : List (List UInt8)) (v : Value) (w : World) {base : Nat} (ho : w.ownsRow base 9 1 v xs.length (strV xs)) (hb : base ≤ w.heap.size) (hn : xs.length ≤ 2097153) (hl : (Lib.join xs [32]).length ≤ 140737488355328) :
    Calls Tryd.prog 22 #[v, .string ⟨#[32]⟩] w fun e w' => e = .returned (.string ⟨(Lib.join xs [32]).toArray⟩) ∧ Below w.heap.size w w' := by
  obtain ⟨A, c, rfl, h1, h2⟩ := own_slice ho
  by_cases h0 : xs = []
  · subst h0
    exact (Tryd.strings_Join_none A c ⟨#[32]⟩ w).mono fun e w' ⟨h, hw⟩ => ⟨h, by subst hw; exact Below.refl _ _⟩
  · have hp : 0 < xs.length := by cases xs with
      | nil => exact absurd rfl h0
      | cons a r => simp
    obtain ⟨g, rfl, _, hlt, hc, _⟩ := own_lt ho hp
    have e1 : (xs.map fun t => (⟨t.toArray⟩ : ByteArray)).map (fun x => x.data.toList) = xs := by
      rw [List.map_map]
      have : ((fun x : ByteArray => x.data.toList) ∘ fun t : List UInt8 => (⟨t.toArray⟩ : ByteArray)) = id := by funext t; simp
      rw [this, List.map_id]
    have := Tryd.strings_Join g 0 c (xs.map fun t => ⟨t.toArray⟩) ⟨#[32]⟩ w (fun j x hx => by
      rw [Nat.zero_add]
      refine hc j _ ?_
      unfold strV
      rw [List.getElem?_map] at hx ⊢
      cases hj : xs[j]? with
      | none => rw [hj] at hx; cases hx
      | some t => rw [hj] at hx; injection hx with hx; subst hx; rfl) hlt (by rw [List.length_map]; omega) (by rw [List.length_map]; exact h1) (by rw [e1]; exact hl)
    rw [List.length_map, e1] at this
    exact this
/-- A token of a row, as a walk reads it. -/
theorem RdT.at5 {w : World} {B : Nat} {A : Option Addr} {l : List Tok} (h : RdT w B A l) {i : Nat} {t : Tok} (ht : l[i]? = some t) :
    ∃ b o, A = some ⟨b, o, none⟩ ∧ b < B ∧ w.cell? ⟨b, o + i * 5, none⟩ = some (.int .i64 t.kind) ∧ w.cell? ⟨b, o + i * 5 + 1, none⟩ = some (.string ⟨t.text.toArray⟩) ∧ w.cell? ⟨b, o + i * 5 + 2, none⟩ = some (.int .i64 t.num) ∧ w.cell? ⟨b, o + i * 5 + 3, none⟩ = some (.int .i64 t.line) ∧ w.cell? ⟨b, o + i * 5 + 4, none⟩ = some (.int .i64 t.col) := by
  obtain ⟨b, o, e, hb, h0, h1, h2, h3, h4⟩ := h.get ht
  exact ⟨b, o, e, hb, h0, by rw [Nat.add_assoc]; exact h1, by rw [Nat.add_assoc]; exact h2, by rw [Nat.add_assoc]; exact h3, by rw [Nat.add_assoc]; exact h4⟩
set_option maxHeartbeats 3200000 in
theorem join_any (A : Option Addr) (l : List Tok) (c : Nat) (w : World) (hlc : l.length ≤ c) (hc2 : c ≤ 9223372036854775807) (hR : RdT w w.heap.size A l) (hwt : wt l ≤ 2097153) :
    Calls Tryd.prog 10 #[.slice A l.length c] w fun e w' => e = .returned (.string ⟨(joinU l).toArray⟩) ∧ Below w.heap.size w w' := by
  have hn := len_wt l
  have hn2 : (l.length : Int) ≤ 2097153 := by omega
  have HR := Lib.hid hR
  have HJ := Lib.hid (joinU_len l)
  have HT := Lib.hid (fun k => txts_len (l.take k))
  clear hR
  go_enter Tryd.func10, Tryd.ntmps10
  go_wp2_with fail
  go_loopw [3, 8] (fun vo vi wr => ∃ (k : Nat), vi = .int .i64 k ∧ k ≤ l.length ∧ Hid (Below w.heap.size w wr) ∧ Hid (wr.ownsRow w.heap.size 9 1 vo (txts (l.take k)).length (strV (txts (l.take k))))) (fun _ vi _ => l.length - (intOf vi).toNat)
  case atStart => exact ⟨0, rfl, Nat.zero_le _, Lib.hid (Below.refl _ _), Lib.hid (own_nil _ _ _ _)⟩
  case round =>
    obtain ⟨k, rfl, hk, HW, HO⟩ := hrel
    by_cases hlt : k < l.length
    · obtain ⟨x, hx⟩ : ∃ x, l[k]? = some x := ⟨_, List.getElem?_eq_getElem hlt⟩
      obtain ⟨b, o, rfl, hb, x0, x1, x2, x3, x4⟩ := HR.out.at5 hx
      have HX := Lib.hid (tok_snoc hx)
      have i0 : (0 : Int) ≤ k := by omega
      have i1 : (k : Int) < l.length := by omega
      have y0 := (HW.out.cell (p := ⟨b, o + k * 5, none⟩) hb).trans x0
      have y1 := (HW.out.cell (p := ⟨b, o + k * 5 + 1, none⟩) hb).trans x1
      have y2 := (HW.out.cell (p := ⟨b, o + k * 5 + 2, none⟩) hb).trans x2
      have y3 := (HW.out.cell (p := ⟨b, o + k * 5 + 3, none⟩) hb).trans x3
      have y4 := (HW.out.cell (p := ⟨b, o + k * 5 + 4, none⟩) hb).trans x4
      clear x0 x1 x2 x3 x4 hx
      by_cases hk3 : x.kind = 3
      · have e1 : txts (l.take (k + 1)) = txts (l.take k) := by rw [HX.out, txts_app]; simp [txts, hk3]
        have hk3' : (x.kind == 3) = true := by simpa using hk3
        go_wp2_with fail
        go_roundw
        case rel => exact ⟨k + 1, by go_num, by omega, Lib.hid (bl_alloc HW.out _), Lib.hid (by rw [e1]; exact own_below HO.out (bl_alloc (Below.refl _ _) _))⟩
        case measure => simp only [intOf]; omega
      · have e1 : txts (l.take (k + 1)) = txts (l.take k) ++ [x.text] := by rw [HX.out, txts_app]; simp [txts, hk3]
        have hk3' : (x.kind == 3) = false := by simpa using hk3
        have hlen : (txts (l.take k)).length ≤ 2097153 := by have := HT.out k; rw [List.length_take] at this; omega
        have hown := own_below HO.out (bl_alloc (Below.refl _ _) (.cells #[.int .i64 x.kind, .string ⟨x.text.toArray⟩, .int .i64 x.num, .int .i64 x.line, .int .i64 x.col] 32))
        have hbl := bl_alloc HW.out (.cells #[.int .i64 x.kind, .string ⟨x.text.toArray⟩, .int .i64 x.num, .int .i64 x.line, .int .i64 x.col] 32)
        have hWs : (wr.alloc (.cells #[.int .i64 x.kind, .string ⟨x.text.toArray⟩, .int .i64 x.num, .int .i64 x.line, .int .i64 x.col] 32)).heap.size = wr.heap.size + 1 := by simp only [World.alloc, Array.size_push]
        have hsl : (strV (txts (l.take k))).length = (txts (l.take k)).length := by unfold strV; rw [List.length_map]
        go_wp2_with (at_builtin; refine app1 rfl (.tmp 15) (.tmp 18) 57 9 (.string ⟨#[]⟩) 16 rfl Tryd.underlying57 info_S rfl (by omega) _ (strV (txts (l.take k))) (.string ⟨x.text.toArray⟩) rfl (by rw [hWs]; rfl) (by rfl) (by rw [hsl]; exact hown) hbl (by rw [hsl]; omega) ?_; intro v1 w1 hown1 hb1 _ _)
        go_roundw
        case rel => exact ⟨k + 1, by go_num, by omega, Lib.hid hb1, Lib.hid (by rw [e1]; unfold strV at hown1 ⊢; rw [List.map_append]; rw [List.length_map] at hown1; simpa using hown1)⟩
        case measure => simp only [intOf]; omega
    · obtain rfl : k = l.length := by omega
      rw [List.take_length] at HO
      have HC := Lib.hid (joined_c (txts l) _ _ HO.out HW.out.size (by have := HT.out l.length; rw [List.take_length] at this; omega) (by have := HJ.out; unfold joinU at this; omega))
      go_wp2_with fail
      refine HC.out.mono ?_; rintro e v2 ⟨rfl, hb2⟩
      go_wp2
      go_ret
      exact ⟨rfl, bl_step HW.out hb2⟩
end Go.Proofs.YtidpenifabojnaaDoor
