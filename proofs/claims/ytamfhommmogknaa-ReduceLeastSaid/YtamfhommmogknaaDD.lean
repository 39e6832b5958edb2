/- A call that writes in one block alone; a line sees a number; the walk over all places of a table. -/
import Derived.Test.YtamfhommmogknaaDC
import Derived.Test.YtamfhommmogknaaIS
namespace Go.Proofs.Ytamfhommmogknaa
open Go Go.RowKit
set_option linter.unusedVariables false
set_option linter.unusedSimpArgs false
set_option maxRecDepth 100000

/-- Block g, and new ones, alone are written. -/
structure Mut (g : Nat) (w w' : World) : Prop where
  bl : Below g w w'
  up : ∀ b, g < b → b < w.heap.size → w'.heap[b]? = w.heap[b]?
section
variable {w w' w'' : World} {g b : Nat} {t : TypeId} {cs : Array Value}
theorem Mut.refl (g : Nat) (w : World) : Mut g w w := ⟨Below.refl _ _, fun _ _ _ => rfl⟩
theorem Mut.trans (h : Mut g w w') (k : Mut g w' w'') : Mut g w w'' := ⟨h.bl.trans k.bl, fun b h1 h2 => (k.up b h1 (by have := h.bl.size; omega)).trans (h.up b h1 h2)⟩
theorem Mut.set (h : Mut g w w') (j : Nat) (v : Value) : Mut g w (w'.setCell ⟨g, j, none⟩ v) :=
  ⟨h.bl.setCell (p := ⟨g, j, none⟩) (Nat.le_refl _) v, fun b h1 h2 => ((Below.heap_setCell w' ⟨g, j, none⟩ v b (by simp; omega))).trans (h.up b h1 h2)⟩
theorem Mut.of_below (h : Below w.heap.size w w') (hg : g ≤ w.heap.size) : Mut g w w' := ⟨h.mono hg, fun b h1 h2 => h.block b h2⟩
theorem Blk.mut (h : Blk w b t cs) (k : Mut g w w') (hb : b ≠ g) : Blk w' b t cs := ⟨by
  rcases Nat.lt_or_gt_of_ne hb with h1 | h1
  · exact (k.bl.block b h1).trans h.out
  · exact (k.up b h1 h.lt).trans h.out⟩
theorem Mut.alike (k : Mut g w w') {B : Nat} (hB : B ≤ g) : Alike B w w' := fun p hp => by
  unfold World.cell?
  rw [k.bl.block p.block (by omega)]
end
theorem flat2_set1 : ∀ (l : List (Value × Value)) (i : Nat) (q : Value × Value) (u : Value), l[i]? = some q → (flat2 l).set (i * 2) u = flat2 (l.set i (u, q.2))
  | [], i, q, u, h => by simp at h
  | a :: l, 0, q, u, h => by simp at h; subst h; rfl
  | a :: l, i + 1, q, u, h => by
    have := flat2_set1 l i q u (by simpa using h)
    rw [show (i + 1) * 2 = i * 2 + 1 + 1 by omega]
    simp only [flat2, List.set_cons_succ, this]
theorem flat2_set2 : ∀ (l : List (Value × Value)) (i : Nat) (q : Value × Value) (u : Value), l[i]? = some q → (flat2 l).set (i * 2 + 1) u = flat2 (l.set i (q.1, u))
  | [], i, q, u, h => by simp at h
  | a :: l, 0, q, u, h => by simp at h; subst h; rfl
  | a :: l, i + 1, q, u, h => by
    have := flat2_set2 l i q u (by simpa using h)
    rw [show (i + 1) * 2 + 1 = i * 2 + 1 + 1 + 1 by omega]
    simp only [flat2, List.set_cons_succ, this]
/-- What a number does to a line: its least, and whether there is one. -/
def seeL (x : Int) (l : Int × Bool) : Int × Bool := (if l.2 = true then (if x < l.1 then x else l.1) else x, true)
def lineV (p : Int × Bool) : Value × Value := (.int .i64 p.1, .bool p.2)
/-- Lines, one behind the other, in a block of their own. -/
def LinesAt (w : World) (g : Nat) (ls : List (Int × Bool)) : Prop := Blk w g 48 (flat2 (ls.map lineV)).toArray
section
variable {w w' : World} {g i : Nat} {ls : List (Int × Bool)} {p : Int × Bool}
theorem LinesAt.get (h : LinesAt w g ls) (hi : ls[i]? = some p) : w.cell? ⟨g, i * 2, none⟩ = some (.int .i64 p.1) ∧ w.cell? ⟨g, i * 2 + 1, none⟩ = some (.bool p.2) := by
  obtain ⟨a1, a2⟩ := flat2_get (ls.map lineV) i (lineV p) (by rw [List.getElem?_map, hi]; rfl)
  have c1 := Blk.cell h (i * 2)
  have c2 := Blk.cell h (i * 2 + 1)
  exact ⟨c1.trans (by simpa [lineV] using a1), c2.trans (by simpa [lineV] using a2)⟩
theorem LinesAt.put1 (h : LinesAt w g ls) (hi : ls[i]? = some p) (x : Int) : LinesAt (w.setCell ⟨g, i * 2, none⟩ (.int .i64 x)) g (ls.set i (x, p.2)) :=
  Blk.put h (i * 2) _ (by
    apply Array.ext'
    rw [Array.toList_setIfInBounds]
    have := flat2_set1 (ls.map lineV) i (lineV p) (.int .i64 x) (by rw [List.getElem?_map, hi]; rfl)
    simp only [this, List.map_set]
    rfl)
theorem LinesAt.put2 (h : LinesAt w g ls) (hi : ls[i]? = some p) (s : Bool) : LinesAt (w.setCell ⟨g, i * 2 + 1, none⟩ (.bool s)) g (ls.set i (p.1, s)) :=
  Blk.put h (i * 2 + 1) _ (by
    apply Array.ext'
    rw [Array.toList_setIfInBounds]
    have := flat2_set2 (ls.map lineV) i (lineV p) (.bool s) (by rw [List.getElem?_map, hi]; rfl)
    simp only [this, List.map_set]
    rfl)
end
theorem see_any (w : World) (g i : Nat) (ls : List (Int × Bool)) (p : Int × Bool) (x : Int) (hL : LinesAt w g ls) (hi : ls[i]? = some p) :
    Calls Try.prog 20 #[.pointer (some ⟨g, i * 2, none⟩), .int .i64 x] w fun e w' => (∃ v, e = .returned v) ∧ LinesAt w' g (ls.set i (seeL x p)) ∧ Mut g w w' := by
  obtain ⟨h1, h2⟩ := hL.get hi
  have f1 : w.frozen? ⟨g, i * 2, none⟩ = false := Blk.frozen hL _
  have f2 : w.frozen? ⟨g, i * 2 + 1, none⟩ = false := Blk.frozen hL _
  have HL := Lib.hid hL
  have HI := Lib.hid hi
  have M0 := Mut.refl g w
  obtain ⟨a, s⟩ := p
  clear hL hi
  have hl : i < ls.length := (List.getElem?_eq_some_iff.1 HI.out).1
  have hset : ∀ y : Int × Bool, (ls.set i y)[i]? = some y := fun y => by rw [List.getElem?_set, if_pos rfl, if_pos hl]
  replace hset := Lib.hid hset
  clear hl
  cases s
  · have e : seeL x (a, false) = (x, true) := rfl
    rw [e]
    go_enter Try.func20, Try.ntmps20
    go_wp2
    go_end0
    refine ⟨⟨_, rfl⟩, ?_, (M0.set _ _).set _ _⟩
    have := (HL.out.put1 HI.out x).put2 (hset.out _) true
    rwa [List.set_set] at this
  · by_cases h : x < a
    · have e : seeL x (a, true) = (x, true) := by unfold seeL; rw [if_pos rfl, if_pos h]
      rw [e]
      go_enter Try.func20, Try.ntmps20
      go_wp2
      go_end0
      refine ⟨⟨_, rfl⟩, ?_, (M0.set _ _).set _ _⟩
      have := (HL.out.put1 HI.out x).put2 (hset.out _) true
      rwa [List.set_set] at this
    · have e : seeL x (a, true) = (a, true) := by unfold seeL; rw [if_pos rfl, if_neg h]
      rw [e]
      go_enter Try.func20, Try.ntmps20
      go_wp2
      go_end0
      exact ⟨⟨_, rfl⟩, HL.out.put2 HI.out true, M0.set _ _⟩
/-- The first closure: row i sees the number. -/
theorem row_any (w : World) (g gL n i k : Nat) (ls : List (Int × Bool)) (p : Int × Bool) (x : Int) (hL : LinesAt w g ls) (hi : ls[i]? = some p) (hn : ls.length = n) (hn2 : n ≤ 64) (hb : Blk w gL 45 #[.slice (some ⟨g, 0, none⟩) n n]) :
    Calls Try.prog 19 #[.int .i64 (i : Nat), .int .i64 (k : Nat), .int .i64 x, .pointer (some ⟨gL, 0, none⟩)] w fun e w' => (∃ v, e = .returned v) ∧ LinesAt w' g (ls.set i (seeL x p)) ∧ Mut g w w' := by
  have H1 := Lib.hid (fun w' (h : LinesAt w' g ls) => see_any w' g i ls p x h hi)
  have HL := Lib.hid hL
  have hl : i < n := by have := (List.getElem?_eq_some_iff.1 hi).1; omega
  have i0 : (0 : Int) ≤ (i : Int) := by omega
  have i1 : (i : Int) < (n : Int) := by omega
  clear hL hi hn
  have b_z : gL < w.heap.size := hb.lt
  have b_c0 : w.cell? ⟨gL, 0, none⟩ = some (.slice (some ⟨g, 0, none⟩) n n) := (hb.cell 0).trans rfl
  have b_f0 := hb.frozen 0
  go_enter Try.func19, Try.ntmps19
  go_wp2_with fail
  (with_reducible refine (H1.out _ HL.out).mono ?_); rintro e v1 ⟨⟨v, rfl⟩, h1, h2⟩
  go_wp2
  go_end0
  exact ⟨⟨_, rfl⟩, h1, h2⟩
/-- All places that may be taken, row by row: what holds behind each call of the function that is handed in. -/
theorem eachR_any (c : List (List Int)) (no : List (List Bool)) (A1 A2 : Option Addr) (c1 c2 : Nat) (w : World) {B g : Nat} (gL : Nat) (Inv : Nat → Nat → World → Prop) (hI : TabAt w B c no A1 c1 A2 c2) (hP : ChkP c no) (hB : B ≤ g) (hg : g < w.heap.size)
    (hf : ∀ (i k : Nat) (r : List Int) (q : List Bool) (x : Int) (wr : World), c[i]? = some r → no[i]? = some q → r[k]? = some x → q[k]? = some false → Inv i k wr → Calls Try.prog 19 #[.int .i64 (i : Nat), .int .i64 (k : Nat), .int .i64 x, .pointer (some ⟨gL, 0, none⟩)] wr fun e w' => (∃ v, e = .returned v) ∧ Inv i (k + 1) w' ∧ Mut g wr w')
    (hs : ∀ (i k : Nat) (q : List Bool) (wr : World), no[i]? = some q → q[k]? = some true → Inv i k wr → Inv i (k + 1) wr)
    (hn : ∀ (i : Nat) (wr : World), i < c.length → Inv i c.length wr → Inv (i + 1) 0 wr)
    (hb : ∀ (i k : Nat) (wr w' : World), Inv i k wr → Below wr.heap.size wr w' → Inv i k w') (h0 : Inv 0 0 w) :
    Calls Try.prog 18 #[.agg #[.slice A1 c.length c1, .slice A2 no.length c2], .func (Fn.func 19) #[] #[.pointer (some ⟨gL, 0, none⟩)]] w fun e w' => (∃ v, e = .returned v) ∧ Inv c.length 0 w' ∧ Mut g w w' := by
  have HI := Lib.hid hI
  have HF := Lib.hid hf
  have HS := Lib.hid hs
  have HN := Lib.hid hn
  have HP := Lib.hid hP
  have N1 := hI.n1
  have N2 := hI.n2
  have b0 : Below w.heap.size w (w.alloc (.cells #[.slice A1 c.length c1, .slice A2 no.length c2] 28)) := bl_alloc (Below.refl _ _) _
  have I0 := Lib.hid (hb 0 0 w _ h0 b0)
  have M0 := Lib.hid (Mut.of_below (g := g) b0 (Nat.le_of_lt hg))
  have hl := hP.2.1
  have h64 := hP.1
  rw [hl] at N2 I0 b0 M0 ⊢
  have HL := Lib.hid hl
  have B0 : Blk (w.alloc (.cells #[.slice A1 c.length c1, .slice A2 c.length c2] 28)) w.heap.size 28 #[.slice A1 c.length c1, .slice A2 c.length c2] := Blk.new _ _ _
  clear hI hf hs hn hP hb h0 hl
  go_enter Try.func18, Try.ntmps18
  go_wp2_with fail
  go_loopw [11] (fun vi wr => ∃ (i : Nat), vi = .int .i64 i ∧ i ≤ c.length ∧ Hid (Inv i 0 wr) ∧ Hid (Mut g w wr) ∧ Hid (Blk wr w.heap.size 28 #[.slice A1 c.length c1, .slice A2 c.length c2])) (fun vi _ => c.length - (intOf vi).toNat)
  case atStart => exact ⟨0, rfl, Nat.zero_le _, I0, M0, Lib.hid B0⟩
  case round =>
    clear I0 M0 B0 b0
    obtain ⟨i, rfl, hi, HV, HM, HB⟩ := hrel
    by_cases hlt : i < c.length
    · obtain ⟨r, hr⟩ : ∃ r, c[i]? = some r := ⟨_, List.getElem?_eq_getElem hlt⟩
      obtain ⟨e1, ⟨q, hq, e2⟩, _⟩ := HP.out.2.2 i r hr
      obtain ⟨b, o, A', c', rfl, hb, hc, m1, m2, hrd⟩ := HI.out.cost.get hr
      obtain ⟨b2, o2, Q', d', rfl, hb2, hd, k1, k2, hqd⟩ := HI.out.no_.get hq
      rw [e1] at hc m1
      rw [e2] at hd k1
      have HR := Lib.hid hr
      have HQ := Lib.hid hq
      have HRD := Lib.hid hrd
      have HQD := Lib.hid hqd
      have HC := Lib.hid hc
      have HD := Lib.hid hd
      have E1 := Lib.hid e1
      have E2 := Lib.hid e2
      have hcw := (HM.out.alike hB ⟨b, o + i, none⟩ hb).trans hc
      have i1 : (i : Int) < (c.length : Int) := by omega
      have i0 : (0 : Int) ≤ (i : Int) := by omega
      clear hr hq hrd hqd hc hd e1 e2
      have x_z : w.heap.size < wr.heap.size := HB.out.lt
      have x_c0 : wr.cell? ⟨w.heap.size, 0, none⟩ = some (.slice (some ⟨b, o, none⟩) c.length c1) := (HB.out.cell 0).trans rfl
      have x_f0 := HB.out.frozen 0
      have x_c1 : wr.cell? ⟨w.heap.size, 1, none⟩ = some (.slice (some ⟨b2, o2, none⟩) c.length c2) := (HB.out.cell 1).trans rfl
      have x_f1 := HB.out.frozen 1
      go_wp2_with fail
      clear x_z x_c0 x_f0 x_c1 x_f1 hcw
      go_loopw [18] (fun vk wr => ∃ (k : Nat), vk = .int .i64 k ∧ k ≤ c.length ∧ Hid (Inv i k wr) ∧ Hid (Mut g w wr) ∧ Hid (Blk wr w.heap.size 28 #[.slice (some ⟨b, o, none⟩) c.length c1, .slice (some ⟨b2, o2, none⟩) c.length c2])) (fun vk _ => c.length - (intOf vk).toNat)
      case atStart => exact ⟨0, rfl, Nat.zero_le _, HV, HM, HB⟩
      case round =>
        clear HV HM HB
        obtain ⟨k, rfl, hk, HV, HM, HB⟩ := hrel
        by_cases hkl : k < c.length
        · obtain ⟨x, hx⟩ : ∃ x, r[k]? = some x := ⟨_, List.getElem?_eq_getElem (by have := E1.out; omega)⟩
          obtain ⟨s, hs⟩ : ∃ s, q[k]? = some s := ⟨_, List.getElem?_eq_getElem (by have := E2.out; omega)⟩
          obtain ⟨b3, o3, rfl, hb3, hx3⟩ := HRD.out.get hx
          obtain ⟨b4, o4, rfl, hb4, hx4⟩ := HQD.out.get hs
          have hx3 := (HM.out.alike hB ⟨b3, o3 + k, none⟩ hb3).trans hx3
          have hx4 := (HM.out.alike hB ⟨b4, o4 + k, none⟩ hb4).trans hx4
          have hdw := (HM.out.alike hB ⟨b2, o2 + i, none⟩ hb2).trans HD.out
          have HX := Lib.hid hx
          have HSS := Lib.hid hs
          have k3 : (k : Int) < (c.length : Int) := by omega
          have k0 : (0 : Int) ≤ (k : Int) := by omega
          clear hx hs
          have y_z : w.heap.size < wr.heap.size := HB.out.lt
          have y_c0 : wr.cell? ⟨w.heap.size, 0, none⟩ = some (.slice (some ⟨b, o, none⟩) c.length c1) := (HB.out.cell 0).trans rfl
          have y_f0 := HB.out.frozen 0
          have y_c1 : wr.cell? ⟨w.heap.size, 1, none⟩ = some (.slice (some ⟨b2, o2, none⟩) c.length c2) := (HB.out.cell 1).trans rfl
          have y_f1 := HB.out.frozen 1
          cases s
          · go_wp2_with fail
            (with_reducible refine (HF.out i k r q x _ HR.out HQ.out HX.out HSS.out HV.out).mono ?_); rintro e v1 ⟨⟨v, rfl⟩, g1, g2⟩
            go_wp2_with fail
            go_roundw
            case rel => exact ⟨k + 1, by go_num, by omega, Lib.hid g1, Lib.hid (HM.out.trans g2), Lib.hid (HB.out.mut g2 (by omega))⟩
            case measure => simp only [intOf]; omega
          · go_wp2_with fail
            go_roundw
            case rel => exact ⟨k + 1, by go_num, by omega, Lib.hid (HS.out i k q _ HQ.out HSS.out HV.out), HM, HB⟩
            case measure => simp only [intOf]; omega
        · obtain rfl : k = c.length := by omega
          have HV2 := Lib.hid (HN.out i wr hlt HV.out)
          clear hkl hk
          go_wp2_with fail
          go_roundw
          case rel => exact ⟨i + 1, by go_num, by omega, HV2, HM, HB⟩
          case measure => simp only [intOf]; omega
    · obtain rfl : i = c.length := by omega
      clear hlt hi
      go_wp2
      go_end0
      exact ⟨⟨_, rfl⟩, HV.out, HM.out⟩
/-- All places that may be taken, row by row: what holds behind each call of the function that is handed in. -/
theorem eachC_any (c : List (List Int)) (no : List (List Bool)) (A1 A2 : Option Addr) (c1 c2 : Nat) (w : World) {B g : Nat} (gL gR : Nat) (Inv : Nat → Nat → World → Prop) (hI : TabAt w B c no A1 c1 A2 c2) (hP : ChkP c no) (hB : B ≤ g) (hg : g < w.heap.size)
    (hf : ∀ (i k : Nat) (r : List Int) (q : List Bool) (x : Int) (wr : World), c[i]? = some r → no[i]? = some q → r[k]? = some x → q[k]? = some false → Inv i k wr → Calls Try.prog 22 #[.int .i64 (i : Nat), .int .i64 (k : Nat), .int .i64 x, .pointer (some ⟨gL, 0, none⟩), .pointer (some ⟨gR, 0, none⟩)] wr fun e w' => (∃ v, e = .returned v) ∧ Inv i (k + 1) w' ∧ Mut g wr w')
    (hs : ∀ (i k : Nat) (q : List Bool) (wr : World), no[i]? = some q → q[k]? = some true → Inv i k wr → Inv i (k + 1) wr)
    (hn : ∀ (i : Nat) (wr : World), i < c.length → Inv i c.length wr → Inv (i + 1) 0 wr)
    (hb : ∀ (i k : Nat) (wr w' : World), Inv i k wr → Below wr.heap.size wr w' → Inv i k w') (h0 : Inv 0 0 w) :
    Calls Try.prog 18 #[.agg #[.slice A1 c.length c1, .slice A2 no.length c2], .func (Fn.func 22) #[] #[.pointer (some ⟨gL, 0, none⟩), .pointer (some ⟨gR, 0, none⟩)]] w fun e w' => (∃ v, e = .returned v) ∧ Inv c.length 0 w' ∧ Mut g w w' := by
  have HI := Lib.hid hI
  have HF := Lib.hid hf
  have HS := Lib.hid hs
  have HN := Lib.hid hn
  have HP := Lib.hid hP
  have N1 := hI.n1
  have N2 := hI.n2
  have b0 : Below w.heap.size w (w.alloc (.cells #[.slice A1 c.length c1, .slice A2 no.length c2] 28)) := bl_alloc (Below.refl _ _) _
  have I0 := Lib.hid (hb 0 0 w _ h0 b0)
  have M0 := Lib.hid (Mut.of_below (g := g) b0 (Nat.le_of_lt hg))
  have hl := hP.2.1
  have h64 := hP.1
  rw [hl] at N2 I0 b0 M0 ⊢
  have HL := Lib.hid hl
  have B0 : Blk (w.alloc (.cells #[.slice A1 c.length c1, .slice A2 c.length c2] 28)) w.heap.size 28 #[.slice A1 c.length c1, .slice A2 c.length c2] := Blk.new _ _ _
  clear hI hf hs hn hP hb h0 hl
  go_enter Try.func18, Try.ntmps18
  go_wp2_with fail
  go_loopw [11] (fun vi wr => ∃ (i : Nat), vi = .int .i64 i ∧ i ≤ c.length ∧ Hid (Inv i 0 wr) ∧ Hid (Mut g w wr) ∧ Hid (Blk wr w.heap.size 28 #[.slice A1 c.length c1, .slice A2 c.length c2])) (fun vi _ => c.length - (intOf vi).toNat)
  case atStart => exact ⟨0, rfl, Nat.zero_le _, I0, M0, Lib.hid B0⟩
  case round =>
    clear I0 M0 B0 b0
    obtain ⟨i, rfl, hi, HV, HM, HB⟩ := hrel
    by_cases hlt : i < c.length
    · obtain ⟨r, hr⟩ : ∃ r, c[i]? = some r := ⟨_, List.getElem?_eq_getElem hlt⟩
      obtain ⟨e1, ⟨q, hq, e2⟩, _⟩ := HP.out.2.2 i r hr
      obtain ⟨b, o, A', c', rfl, hb, hc, m1, m2, hrd⟩ := HI.out.cost.get hr
      obtain ⟨b2, o2, Q', d', rfl, hb2, hd, k1, k2, hqd⟩ := HI.out.no_.get hq
      rw [e1] at hc m1
      rw [e2] at hd k1
      have HR := Lib.hid hr
      have HQ := Lib.hid hq
      have HRD := Lib.hid hrd
      have HQD := Lib.hid hqd
      have HC := Lib.hid hc
      have HD := Lib.hid hd
      have E1 := Lib.hid e1
      have E2 := Lib.hid e2
      have hcw := (HM.out.alike hB ⟨b, o + i, none⟩ hb).trans hc
      have i1 : (i : Int) < (c.length : Int) := by omega
      have i0 : (0 : Int) ≤ (i : Int) := by omega
      clear hr hq hrd hqd hc hd e1 e2
      have x_z : w.heap.size < wr.heap.size := HB.out.lt
      have x_c0 : wr.cell? ⟨w.heap.size, 0, none⟩ = some (.slice (some ⟨b, o, none⟩) c.length c1) := (HB.out.cell 0).trans rfl
      have x_f0 := HB.out.frozen 0
      have x_c1 : wr.cell? ⟨w.heap.size, 1, none⟩ = some (.slice (some ⟨b2, o2, none⟩) c.length c2) := (HB.out.cell 1).trans rfl
      have x_f1 := HB.out.frozen 1
      go_wp2_with fail
      clear x_z x_c0 x_f0 x_c1 x_f1 hcw
      go_loopw [18] (fun vk wr => ∃ (k : Nat), vk = .int .i64 k ∧ k ≤ c.length ∧ Hid (Inv i k wr) ∧ Hid (Mut g w wr) ∧ Hid (Blk wr w.heap.size 28 #[.slice (some ⟨b, o, none⟩) c.length c1, .slice (some ⟨b2, o2, none⟩) c.length c2])) (fun vk _ => c.length - (intOf vk).toNat)
      case atStart => exact ⟨0, rfl, Nat.zero_le _, HV, HM, HB⟩
      case round =>
        clear HV HM HB
        obtain ⟨k, rfl, hk, HV, HM, HB⟩ := hrel
        by_cases hkl : k < c.length
        · obtain ⟨x, hx⟩ : ∃ x, r[k]? = some x := ⟨_, List.getElem?_eq_getElem (by have := E1.out; omega)⟩
          obtain ⟨s, hs⟩ : ∃ s, q[k]? = some s := ⟨_, List.getElem?_eq_getElem (by have := E2.out; omega)⟩
          obtain ⟨b3, o3, rfl, hb3, hx3⟩ := HRD.out.get hx
          obtain ⟨b4, o4, rfl, hb4, hx4⟩ := HQD.out.get hs
          have hx3 := (HM.out.alike hB ⟨b3, o3 + k, none⟩ hb3).trans hx3
          have hx4 := (HM.out.alike hB ⟨b4, o4 + k, none⟩ hb4).trans hx4
          have hdw := (HM.out.alike hB ⟨b2, o2 + i, none⟩ hb2).trans HD.out
          have HX := Lib.hid hx
          have HSS := Lib.hid hs
          have k3 : (k : Int) < (c.length : Int) := by omega
          have k0 : (0 : Int) ≤ (k : Int) := by omega
          clear hx hs
          have y_z : w.heap.size < wr.heap.size := HB.out.lt
          have y_c0 : wr.cell? ⟨w.heap.size, 0, none⟩ = some (.slice (some ⟨b, o, none⟩) c.length c1) := (HB.out.cell 0).trans rfl
          have y_f0 := HB.out.frozen 0
          have y_c1 : wr.cell? ⟨w.heap.size, 1, none⟩ = some (.slice (some ⟨b2, o2, none⟩) c.length c2) := (HB.out.cell 1).trans rfl
          have y_f1 := HB.out.frozen 1
          cases s
          · go_wp2_with fail
            (with_reducible refine (HF.out i k r q x _ HR.out HQ.out HX.out HSS.out HV.out).mono ?_); rintro e v1 ⟨⟨v, rfl⟩, g1, g2⟩
            go_wp2_with fail
            go_roundw
            case rel => exact ⟨k + 1, by go_num, by omega, Lib.hid g1, Lib.hid (HM.out.trans g2), Lib.hid (HB.out.mut g2 (by omega))⟩
            case measure => simp only [intOf]; omega
          · go_wp2_with fail
            go_roundw
            case rel => exact ⟨k + 1, by go_num, by omega, Lib.hid (HS.out i k q _ HQ.out HSS.out HV.out), HM, HB⟩
            case measure => simp only [intOf]; omega
        · obtain rfl : k = c.length := by omega
          have HV2 := Lib.hid (HN.out i wr hlt HV.out)
          clear hkl hk
          go_wp2_with fail
          go_roundw
          case rel => exact ⟨i + 1, by go_num, by omega, HV2, HM, HB⟩
          case measure => simp only [intOf]; omega
    · obtain rfl : i = c.length := by omega
      clear hlt hi
      go_wp2
      go_end0
      exact ⟨⟨_, rfl⟩, HV.out, HM.out⟩
/-- All places that may be taken, row by row: what holds behind each call of the function that is handed in. -/
theorem eachF_any (c : List (List Int)) (no : List (List Bool)) (A1 A2 : Option Addr) (c1 c2 : Nat) (w : World) {B g : Nat} (gO gR gC : Nat) (Inv : Nat → Nat → World → Prop) (hI : TabAt w B c no A1 c1 A2 c2) (hP : ChkP c no) (hB : B ≤ g) (hg : g < w.heap.size)
    (hf : ∀ (i k : Nat) (r : List Int) (q : List Bool) (x : Int) (wr : World), c[i]? = some r → no[i]? = some q → r[k]? = some x → q[k]? = some false → Inv i k wr → Calls Try.prog 32 #[.int .i64 (i : Nat), .int .i64 (k : Nat), .int .i64 x, .pointer (some ⟨gO, 0, none⟩), .pointer (some ⟨gR, 0, none⟩), .pointer (some ⟨gC, 0, none⟩)] wr fun e w' => (∃ v, e = .returned v) ∧ Inv i (k + 1) w' ∧ Mut g wr w')
    (hs : ∀ (i k : Nat) (q : List Bool) (wr : World), no[i]? = some q → q[k]? = some true → Inv i k wr → Inv i (k + 1) wr)
    (hn : ∀ (i : Nat) (wr : World), i < c.length → Inv i c.length wr → Inv (i + 1) 0 wr)
    (hb : ∀ (i k : Nat) (wr w' : World), Inv i k wr → Below wr.heap.size wr w' → Inv i k w') (h0 : Inv 0 0 w) :
    Calls Try.prog 18 #[.agg #[.slice A1 c.length c1, .slice A2 no.length c2], .func (Fn.func 32) #[] #[.pointer (some ⟨gO, 0, none⟩), .pointer (some ⟨gR, 0, none⟩), .pointer (some ⟨gC, 0, none⟩)]] w fun e w' => (∃ v, e = .returned v) ∧ Inv c.length 0 w' ∧ Mut g w w' := by
  have HI := Lib.hid hI
  have HF := Lib.hid hf
  have HS := Lib.hid hs
  have HN := Lib.hid hn
  have HP := Lib.hid hP
  have N1 := hI.n1
  have N2 := hI.n2
  have b0 : Below w.heap.size w (w.alloc (.cells #[.slice A1 c.length c1, .slice A2 no.length c2] 28)) := bl_alloc (Below.refl _ _) _
  have I0 := Lib.hid (hb 0 0 w _ h0 b0)
  have M0 := Lib.hid (Mut.of_below (g := g) b0 (Nat.le_of_lt hg))
  have hl := hP.2.1
  have h64 := hP.1
  rw [hl] at N2 I0 b0 M0 ⊢
  have HL := Lib.hid hl
  have B0 : Blk (w.alloc (.cells #[.slice A1 c.length c1, .slice A2 c.length c2] 28)) w.heap.size 28 #[.slice A1 c.length c1, .slice A2 c.length c2] := Blk.new _ _ _
  clear hI hf hs hn hP hb h0 hl
  go_enter Try.func18, Try.ntmps18
  go_wp2_with fail
  go_loopw [11] (fun vi wr => ∃ (i : Nat), vi = .int .i64 i ∧ i ≤ c.length ∧ Hid (Inv i 0 wr) ∧ Hid (Mut g w wr) ∧ Hid (Blk wr w.heap.size 28 #[.slice A1 c.length c1, .slice A2 c.length c2])) (fun vi _ => c.length - (intOf vi).toNat)
  case atStart => exact ⟨0, rfl, Nat.zero_le _, I0, M0, Lib.hid B0⟩
  case round =>
    clear I0 M0 B0 b0
    obtain ⟨i, rfl, hi, HV, HM, HB⟩ := hrel
    by_cases hlt : i < c.length
    · obtain ⟨r, hr⟩ : ∃ r, c[i]? = some r := ⟨_, List.getElem?_eq_getElem hlt⟩
      obtain ⟨e1, ⟨q, hq, e2⟩, _⟩ := HP.out.2.2 i r hr
      obtain ⟨b, o, A', c', rfl, hb, hc, m1, m2, hrd⟩ := HI.out.cost.get hr
      obtain ⟨b2, o2, Q', d', rfl, hb2, hd, k1, k2, hqd⟩ := HI.out.no_.get hq
      rw [e1] at hc m1
      rw [e2] at hd k1
      have HR := Lib.hid hr
      have HQ := Lib.hid hq
      have HRD := Lib.hid hrd
      have HQD := Lib.hid hqd
      have HC := Lib.hid hc
      have HD := Lib.hid hd
      have E1 := Lib.hid e1
      have E2 := Lib.hid e2
      have hcw := (HM.out.alike hB ⟨b, o + i, none⟩ hb).trans hc
      have i1 : (i : Int) < (c.length : Int) := by omega
      have i0 : (0 : Int) ≤ (i : Int) := by omega
      clear hr hq hrd hqd hc hd e1 e2
      have x_z : w.heap.size < wr.heap.size := HB.out.lt
      have x_c0 : wr.cell? ⟨w.heap.size, 0, none⟩ = some (.slice (some ⟨b, o, none⟩) c.length c1) := (HB.out.cell 0).trans rfl
      have x_f0 := HB.out.frozen 0
      have x_c1 : wr.cell? ⟨w.heap.size, 1, none⟩ = some (.slice (some ⟨b2, o2, none⟩) c.length c2) := (HB.out.cell 1).trans rfl
      have x_f1 := HB.out.frozen 1
      go_wp2_with fail
      clear x_z x_c0 x_f0 x_c1 x_f1 hcw
      go_loopw [18] (fun vk wr => ∃ (k : Nat), vk = .int .i64 k ∧ k ≤ c.length ∧ Hid (Inv i k wr) ∧ Hid (Mut g w wr) ∧ Hid (Blk wr w.heap.size 28 #[.slice (some ⟨b, o, none⟩) c.length c1, .slice (some ⟨b2, o2, none⟩) c.length c2])) (fun vk _ => c.length - (intOf vk).toNat)
      case atStart => exact ⟨0, rfl, Nat.zero_le _, HV, HM, HB⟩
      case round =>
        clear HV HM HB
        obtain ⟨k, rfl, hk, HV, HM, HB⟩ := hrel
        by_cases hkl : k < c.length
        · obtain ⟨x, hx⟩ : ∃ x, r[k]? = some x := ⟨_, List.getElem?_eq_getElem (by have := E1.out; omega)⟩
          obtain ⟨s, hs⟩ : ∃ s, q[k]? = some s := ⟨_, List.getElem?_eq_getElem (by have := E2.out; omega)⟩
          obtain ⟨b3, o3, rfl, hb3, hx3⟩ := HRD.out.get hx
          obtain ⟨b4, o4, rfl, hb4, hx4⟩ := HQD.out.get hs
          have hx3 := (HM.out.alike hB ⟨b3, o3 + k, none⟩ hb3).trans hx3
          have hx4 := (HM.out.alike hB ⟨b4, o4 + k, none⟩ hb4).trans hx4
          have hdw := (HM.out.alike hB ⟨b2, o2 + i, none⟩ hb2).trans HD.out
          have HX := Lib.hid hx
          have HSS := Lib.hid hs
          have k3 : (k : Int) < (c.length : Int) := by omega
          have k0 : (0 : Int) ≤ (k : Int) := by omega
          clear hx hs
          have y_z : w.heap.size < wr.heap.size := HB.out.lt
          have y_c0 : wr.cell? ⟨w.heap.size, 0, none⟩ = some (.slice (some ⟨b, o, none⟩) c.length c1) := (HB.out.cell 0).trans rfl
          have y_f0 := HB.out.frozen 0
          have y_c1 : wr.cell? ⟨w.heap.size, 1, none⟩ = some (.slice (some ⟨b2, o2, none⟩) c.length c2) := (HB.out.cell 1).trans rfl
          have y_f1 := HB.out.frozen 1
          cases s
          · go_wp2_with fail
            (with_reducible refine (HF.out i k r q x _ HR.out HQ.out HX.out HSS.out HV.out).mono ?_); rintro e v1 ⟨⟨v, rfl⟩, g1, g2⟩
            go_wp2_with fail
            go_roundw
            case rel => exact ⟨k + 1, by go_num, by omega, Lib.hid g1, Lib.hid (HM.out.trans g2), Lib.hid (HB.out.mut g2 (by omega))⟩
            case measure => simp only [intOf]; omega
          · go_wp2_with fail
            go_roundw
            case rel => exact ⟨k + 1, by go_num, by omega, Lib.hid (HS.out i k q _ HQ.out HSS.out HV.out), HM, HB⟩
            case measure => simp only [intOf]; omega
        · obtain rfl : k = c.length := by omega
          have HV2 := Lib.hid (HN.out i wr hlt HV.out)
          clear hkl hk
          go_wp2_with fail
          go_roundw
          case rel => exact ⟨i + 1, by go_num, by omega, HV2, HM, HB⟩
          case measure => simp only [intOf]; omega
    · obtain rfl : i = c.length := by omega
      clear hlt hi
      go_wp2
      go_end0
      exact ⟨⟨_, rfl⟩, HV.out, HM.out⟩
end Go.Proofs.Ytamfhommmogknaa
