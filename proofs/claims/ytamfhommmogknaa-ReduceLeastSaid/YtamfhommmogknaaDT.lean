/- Signs of life of the law. -/
import Derived.Test.YtamfhommmogknaaDS
namespace Go.Proofs.Ytamfhommmogknaa
open Go Go.RowKit
set_option linter.unusedVariables false
set_option linter.unusedSimpArgs false
set_option maxRecDepth 100000

theorem equal_same (l : List Int) (A A' : Option Addr) (c c' n : Nat) (w : World) {b b' : Nat} (h : w.ownsRow b 2 1 (.slice A n c) n (l.map (Value.int .i64))) (h' : w.ownsRow b' 2 1 (.slice A' n c') n (l.map (Value.int .i64))) :
    Calls Try.prog 12 #[.slice A n c, .slice A' n c'] w fun e w' => e = .returned (.bool true) ∧ Below w.heap.size w w' := by
  have hn : l.length = n := by have := h.1; simp at this; omega
  subst hn
  have := equal_any l l A A' c c' w (Reads.of_own h) (Reads.of_own h') (cap_of h) (cap_of h') (Nat.le_refl _) (Nat.le_refl _)
  simpa using this
theorem equal_nil (w : World) : Calls Try.prog 12 #[.slice none 0 0, .slice none 0 0] w fun e w' => e = .returned (.bool true) ∧ Below w.heap.size w w' := by
  have := equal_any [] [] none none 0 0 w (Reads.none_ w w.heap.size 1 none) (Reads.none_ w w.heap.size 1 none) ⟨Nat.le_refl _, by omega⟩ ⟨Nat.le_refl _, by omega⟩ (Nat.le_refl _) (Nat.le_refl _)
  simpa using this
theorem equal_lit (l : List Int) (A : Option Addr) (c g n : Nat) (w : World) {b : Nat} {t : TypeId} (h : w.ownsRow b 2 1 (.slice A n c) n (l.map (Value.int .i64))) (h' : Blk w g t (l.map (Value.int .i64)).toArray) :
    Calls Try.prog 12 #[.slice A n c, .slice (some ⟨g, 0, none⟩) n n] w fun e w' => e = .returned (.bool true) ∧ Below w.heap.size w w' := by
  have hn : l.length = n := by have := h.1; simp at this; omega
  subst hn
  by_cases hc63 : l.length ≤ 9223372036854775807
  · have hr : RdI w (g + 1) (some ⟨g, 0, none⟩) l := ⟨by simp, fun _ => ⟨g, 0, rfl, by omega, fun j u hu => by
      have := h'.cell j
      rw [Nat.zero_add, this]
      simpa using hu⟩⟩
    have := equal_any l l A (some ⟨g, 0, none⟩) c l.length w (Reads.of_own h) hr (cap_of h) ⟨Nat.le_refl _, hc63⟩ (Nat.le_refl _) h'.lt
    simpa using this
  · have := cap_of h
    omega
def c0 : List (List Int) := [[4, 1], [2, 0]]
def n0 : List (List Bool) := [[false, false], [false, false]]
theorem chk0 : ChkP c0 n0 := by
  refine ⟨by decide, by decide, fun i r hr => ?_⟩
  have hi : i < 2 := (List.getElem?_eq_some_iff.1 hr).1
  rcases (by omega : i = 0 ∨ i = 1) with rfl | rfl
  · simp [c0] at hr
    subst hr
    exact ⟨rfl, ⟨[false, false], rfl, rfl⟩, fun x hx => by simp at hx; omega⟩
  · simp [c0] at hr
    subst hr
    exact ⟨rfl, ⟨[false, false], rfl, rfl⟩, fun x hx => by simp at hx; omega⟩
theorem rowL0 : rowL c0 n0 = [(1, true), (0, true)] := by decide
theorem rowN0 : rowN c0 n0 = [1, 0] := by decide
theorem colL0 : colL c0 n0 = [(2, true), (0, true)] := by decide
theorem colN0 : colN c0 n0 = [2, 0] := by decide
theorem good0 : GoodP c0 n0 := ⟨chk0, by rw [rowL0]; simp, by rw [colL0]; simp⟩
theorem fair0 : FairTo c0 n0 [1, 0] [2, 0] 2 0 := by
  intro i k r q x y z h hr hq hx hk hy hz
  have hi : i < 2 := (List.getElem?_eq_some_iff.1 hr).1
  rcases (by omega : i = 0 ∨ i = 1) with rfl | rfl
  · simp [c0] at hr hy
    subst hr hy
    have hk2 : k < 2 := (List.getElem?_eq_some_iff.1 hx).1
    rcases (by omega : k = 0 ∨ k = 1) with rfl | rfl
    · simp at hx hz; omega
    · simp at hx hz; omega
  · simp [c0] at hr hy
    subst hr hy
    have hk2 : k < 2 := (List.getElem?_eq_some_iff.1 hx).1
    rcases (by omega : k = 0 ∨ k = 1) with rfl | rfl
    · simp at hx hz; omega
    · simp at hx hz; omega
theorem bound0 : BoundP c0 n0 [1, 0] [2, 0] := ⟨chk0, rfl, rfl, fun x hx => by simp at hx; unfold InW; omega, fun x hx => by simp at hx; unfold InW; omega, fair0⟩
/-- The table of wakes, as it lies. -/
theorem tab0 {w : World} {g : Nat} (h0 : Blk w g 2 #[.int .i64 4, .int .i64 1]) (h1 : Blk w (g + 1) 2 #[.int .i64 2, .int .i64 0]) (h2 : Blk w (g + 1 + 1) 29 #[.slice (some ⟨g, 0, none⟩) 2 2, .slice (some ⟨g + 1, 0, none⟩) 2 2])
    (h3 : Blk w (g + 1 + 1 + 1) 4 #[.bool false, .bool false]) (h4 : Blk w (g + 1 + 1 + 1 + 1) 4 #[.bool false, .bool false]) (h5 : Blk w (g + 1 + 1 + 1 + 1 + 1) 43 #[.slice (some ⟨g + 1 + 1 + 1, 0, none⟩) 2 2, .slice (some ⟨g + 1 + 1 + 1 + 1, 0, none⟩) 2 2]) :
    TabAt w w.heap.size c0 n0 (some ⟨g + 1 + 1, 0, none⟩) 2 (some ⟨g + 1 + 1 + 1 + 1 + 1, 0, none⟩) 2 := by
  have rd : ∀ {b : Nat} {t : TypeId} {xs : List Value}, Blk w b t xs.toArray → Reads w w.heap.size 1 (some ⟨b, 0, none⟩) xs.length xs := fun {b t xs} h => ⟨by simp, fun _ => ⟨b, 0, rfl, h.lt, fun j u hu => by
    have := h.cell j
    rw [Nat.zero_add, this]
    simpa using hu⟩⟩
  refine ⟨⟨[.slice (some ⟨g, 0, none⟩) 2 2, .slice (some ⟨g + 1, 0, none⟩) 2 2], rfl, rd (xs := [.slice (some ⟨g, 0, none⟩) 2 2, .slice (some ⟨g + 1, 0, none⟩) 2 2]) h2, fun i r u hr hu => ?_⟩, ⟨[.slice (some ⟨g + 1 + 1 + 1, 0, none⟩) 2 2, .slice (some ⟨g + 1 + 1 + 1 + 1, 0, none⟩) 2 2], rfl, rd (xs := [.slice (some ⟨g + 1 + 1 + 1, 0, none⟩) 2 2, .slice (some ⟨g + 1 + 1 + 1 + 1, 0, none⟩) 2 2]) h5, fun i r u hr hu => ?_⟩, ⟨Nat.le_refl _, by decide⟩, ⟨Nat.le_refl _, by decide⟩, fun r hr x hx => ?_, Nat.le_refl _⟩
  · have hi : i < 2 := (List.getElem?_eq_some_iff.1 hu).1
    rcases (by omega : i = 0 ∨ i = 1) with rfl | rfl
    · simp [c0] at hr hu
      subst hr hu
      exact ⟨_, _, rfl, Nat.le_refl _, by decide, rd (xs := [.int .i64 4, .int .i64 1]) h0⟩
    · simp [c0] at hr hu
      subst hr hu
      exact ⟨_, _, rfl, Nat.le_refl _, by decide, rd (xs := [.int .i64 2, .int .i64 0]) h1⟩
  · have hi : i < 2 := (List.getElem?_eq_some_iff.1 hu).1
    rcases (by omega : i = 0 ∨ i = 1) with rfl | rfl
    · simp [n0] at hr hu
      subst hr hu
      exact ⟨_, _, rfl, Nat.le_refl _, by decide, rd (xs := [.bool false, .bool false]) h3⟩
    · simp [n0] at hr hu
      subst hr hu
      exact ⟨_, _, rfl, Nat.le_refl _, by decide, rd (xs := [.bool false, .bool false]) h4⟩
  · simp [c0] at hr
    rcases hr with rfl | rfl
    · simp at hx; exact ⟨by omega, by omega⟩
    · simp at hx; exact ⟨by omega, by omega⟩
theorem chk1 (g : Nat) (w : World) (h0 : Blk w g 2 #[.int .i64 1]) (h1 : Blk w (g + 1) 29 #[.slice (some ⟨g, 0, none⟩) 1 1]) : Calls Try.prog 10 #[.agg #[.slice (some ⟨g + 1, 0, none⟩) 1 1, .slice none 0 0]] w fun e w' => e = .returned (.bool false) ∧ Below w.heap.size w w' := by
  have rd : ∀ {b : Nat} {t : TypeId} {xs : List Value}, Blk w b t xs.toArray → Reads w w.heap.size 1 (some ⟨b, 0, none⟩) xs.length xs := fun {b t xs} h => ⟨by simp, fun _ => ⟨b, 0, rfl, h.lt, fun j u hu => by
    have := h.cell j
    rw [Nat.zero_add, this]
    simpa using hu⟩⟩
  have hT : TabAt w w.heap.size [[1]] [] (some ⟨g + 1, 0, none⟩) 1 none 0 := by
    refine ⟨⟨[.slice (some ⟨g, 0, none⟩) 1 1], rfl, rd (xs := [.slice (some ⟨g, 0, none⟩) 1 1]) h1, fun i r u hr hu => ?_⟩, ⟨[], rfl, Reads.none_ _ _ _ _, fun i r u hr => by simp at hr⟩, ⟨Nat.le_refl _, by decide⟩, ⟨Nat.le_refl _, by decide⟩, fun r hr x hx => ?_, Nat.le_refl _⟩
    · have hi : i < 1 := (List.getElem?_eq_some_iff.1 hu).1
      obtain rfl : i = 0 := by omega
      simp at hr hu
      subst hr hu
      exact ⟨_, _, rfl, Nat.le_refl _, by decide, rd (xs := [.int .i64 1]) h0⟩
    · simp at hr; subst hr; simp at hx; exact ⟨by omega, by omega⟩
  have := chk_any [[1]] [] (some ⟨g + 1, 0, none⟩) none 1 0 w hT
  rw [chkB_f (fun h => by have := h.2.1; simp at this)] at this
  exact this
theorem wk_prices {B : Nat} {A1 A2 : Option Addr} (w : World) (hT : TabAt w B c0 n0 A1 2 A2 2) : Calls Try.prog 8 #[.agg #[.slice A1 2 2, .slice A2 2 2]] w fun e w' => (∃ U u V v, e = .returned (.tuple #[.slice U 2 u, .slice V 2 v, .bool true]) ∧ w'.ownsRow w.heap.size 2 1 (.slice U 2 u) 2 (([1, 0] : List Int).map (Value.int .i64)) ∧ w'.ownsRow w.heap.size 2 1 (.slice V 2 v) 2 (([2, 0] : List Int).map (Value.int .i64))) ∧ Below w.heap.size w w' := by
  refine (show Calls Try.prog 8 #[.agg #[.slice A1 2 2, .slice A2 2 2]] w fun e w' => PricesPost w c0 n0 e w' from pprices_any c0 n0 A1 A2 2 2 w hT).mono ?_
  rintro e w' ⟨h, hb⟩
  refine ⟨?_, hb⟩
  rcases h with ⟨_, U, u, V, v, h1, h2, h3⟩ | ⟨h, _⟩
  · rw [rowN0] at h2
    rw [colN0] at h3
    exact ⟨U, u, V, v, h1, h2, h3⟩
  · exact absurd good0 h
theorem wk_bound {B : Nat} {A1 A2 : Option Addr} (w : World) (U V : Option Addr) (u v b b' : Nat) (hT : TabAt w B c0 n0 A1 2 A2 2) (hU : w.ownsRow b 2 1 (.slice U 2 u) 2 (([1, 0] : List Int).map (Value.int .i64))) (hV : w.ownsRow b' 2 1 (.slice V 2 v) 2 (([2, 0] : List Int).map (Value.int .i64))) :
    Calls Try.prog 14 #[.agg #[.slice A1 2 2, .slice A2 2 2], .slice U 2 u, .slice V 2 v] w fun e w' => e = .returned (.tuple #[.int .i64 3, .bool true]) ∧ Below w.heap.size w w' := by
  refine (show Calls Try.prog 14 #[.agg #[.slice A1 2 2, .slice A2 2 2], .slice U 2 u, .slice V 2 v] w fun e w' => BoundPost w c0 n0 [1, 0] [2, 0] e w' from bound_n c0 n0 [1, 0] [2, 0] A1 A2 U V 2 2 u v 2 2 w (hT.more hT.bd (Nat.le_refl _)) (Reads.of_own hU) (Reads.of_own hV) rfl rfl (by omega) (by omega) (fun x hx => by simp at hx; exact ⟨by omega, by omega⟩) (fun x hx => by simp at hx; exact ⟨by omega, by omega⟩)).mono ?_
  rintro e w' ⟨h, hb⟩
  refine ⟨?_, hb⟩
  rcases h with ⟨_, h⟩ | ⟨h, _⟩
  · exact h
  · exact absurd bound0 h
set_option maxHeartbeats 6400000 in
theorem wakes_any (w : World) : Calls Try.prog 13 #[] w fun e w' => e = .returned (.bool true) ∧ Below w.heap.size w w' := by
  have h0 : Blk (((((((w.alloc (.cells #[.int .i64 4, .int .i64 1] 2)).alloc (.cells #[.int .i64 2, .int .i64 0] 2)).alloc (.cells #[.slice (some ⟨w.heap.size, 0, none⟩) 2 2, .slice (some ⟨w.heap.size + 1, 0, none⟩) 2 2] 29)).alloc (.cells #[.bool false, .bool false] 4)).alloc (.cells #[.bool false, .bool false] 4)).alloc (.cells #[.slice (some ⟨w.heap.size + 1 + 1 + 1, 0, none⟩) 2 2, .slice (some ⟨w.heap.size + 1 + 1 + 1 + 1, 0, none⟩) 2 2] 43)).alloc (.cells #[.slice (some ⟨w.heap.size + 1 + 1, 0, none⟩) 2 2, .slice (some ⟨w.heap.size + 1 + 1 + 1 + 1 + 1, 0, none⟩) 2 2] 28)) w.heap.size 2 #[.int .i64 4, .int .i64 1] := ((((((Blk.new _ _ _).alloc _).alloc _).alloc _).alloc _).alloc _).alloc _
  have h1 : Blk (((((((w.alloc (.cells #[.int .i64 4, .int .i64 1] 2)).alloc (.cells #[.int .i64 2, .int .i64 0] 2)).alloc (.cells #[.slice (some ⟨w.heap.size, 0, none⟩) 2 2, .slice (some ⟨w.heap.size + 1, 0, none⟩) 2 2] 29)).alloc (.cells #[.bool false, .bool false] 4)).alloc (.cells #[.bool false, .bool false] 4)).alloc (.cells #[.slice (some ⟨w.heap.size + 1 + 1 + 1, 0, none⟩) 2 2, .slice (some ⟨w.heap.size + 1 + 1 + 1 + 1, 0, none⟩) 2 2] 43)).alloc (.cells #[.slice (some ⟨w.heap.size + 1 + 1, 0, none⟩) 2 2, .slice (some ⟨w.heap.size + 1 + 1 + 1 + 1 + 1, 0, none⟩) 2 2] 28)) (w.heap.size + 1) 2 #[.int .i64 2, .int .i64 0] := (((((Blk.new' (by simp) _ _).alloc _).alloc _).alloc _).alloc _).alloc _
  have h2 : Blk (((((((w.alloc (.cells #[.int .i64 4, .int .i64 1] 2)).alloc (.cells #[.int .i64 2, .int .i64 0] 2)).alloc (.cells #[.slice (some ⟨w.heap.size, 0, none⟩) 2 2, .slice (some ⟨w.heap.size + 1, 0, none⟩) 2 2] 29)).alloc (.cells #[.bool false, .bool false] 4)).alloc (.cells #[.bool false, .bool false] 4)).alloc (.cells #[.slice (some ⟨w.heap.size + 1 + 1 + 1, 0, none⟩) 2 2, .slice (some ⟨w.heap.size + 1 + 1 + 1 + 1, 0, none⟩) 2 2] 43)).alloc (.cells #[.slice (some ⟨w.heap.size + 1 + 1, 0, none⟩) 2 2, .slice (some ⟨w.heap.size + 1 + 1 + 1 + 1 + 1, 0, none⟩) 2 2] 28)) (w.heap.size + 1 + 1) 29 #[.slice (some ⟨w.heap.size, 0, none⟩) 2 2, .slice (some ⟨w.heap.size + 1, 0, none⟩) 2 2] := ((((Blk.new' (by simp) _ _).alloc _).alloc _).alloc _).alloc _
  have h3 : Blk (((((((w.alloc (.cells #[.int .i64 4, .int .i64 1] 2)).alloc (.cells #[.int .i64 2, .int .i64 0] 2)).alloc (.cells #[.slice (some ⟨w.heap.size, 0, none⟩) 2 2, .slice (some ⟨w.heap.size + 1, 0, none⟩) 2 2] 29)).alloc (.cells #[.bool false, .bool false] 4)).alloc (.cells #[.bool false, .bool false] 4)).alloc (.cells #[.slice (some ⟨w.heap.size + 1 + 1 + 1, 0, none⟩) 2 2, .slice (some ⟨w.heap.size + 1 + 1 + 1 + 1, 0, none⟩) 2 2] 43)).alloc (.cells #[.slice (some ⟨w.heap.size + 1 + 1, 0, none⟩) 2 2, .slice (some ⟨w.heap.size + 1 + 1 + 1 + 1 + 1, 0, none⟩) 2 2] 28)) (w.heap.size + 1 + 1 + 1) 4 #[.bool false, .bool false] := (((Blk.new' (by simp) _ _).alloc _).alloc _).alloc _
  have h4 : Blk (((((((w.alloc (.cells #[.int .i64 4, .int .i64 1] 2)).alloc (.cells #[.int .i64 2, .int .i64 0] 2)).alloc (.cells #[.slice (some ⟨w.heap.size, 0, none⟩) 2 2, .slice (some ⟨w.heap.size + 1, 0, none⟩) 2 2] 29)).alloc (.cells #[.bool false, .bool false] 4)).alloc (.cells #[.bool false, .bool false] 4)).alloc (.cells #[.slice (some ⟨w.heap.size + 1 + 1 + 1, 0, none⟩) 2 2, .slice (some ⟨w.heap.size + 1 + 1 + 1 + 1, 0, none⟩) 2 2] 43)).alloc (.cells #[.slice (some ⟨w.heap.size + 1 + 1, 0, none⟩) 2 2, .slice (some ⟨w.heap.size + 1 + 1 + 1 + 1 + 1, 0, none⟩) 2 2] 28)) (w.heap.size + 1 + 1 + 1 + 1) 4 #[.bool false, .bool false] := ((Blk.new' (by simp) _ _).alloc _).alloc _
  have h5 : Blk (((((((w.alloc (.cells #[.int .i64 4, .int .i64 1] 2)).alloc (.cells #[.int .i64 2, .int .i64 0] 2)).alloc (.cells #[.slice (some ⟨w.heap.size, 0, none⟩) 2 2, .slice (some ⟨w.heap.size + 1, 0, none⟩) 2 2] 29)).alloc (.cells #[.bool false, .bool false] 4)).alloc (.cells #[.bool false, .bool false] 4)).alloc (.cells #[.slice (some ⟨w.heap.size + 1 + 1 + 1, 0, none⟩) 2 2, .slice (some ⟨w.heap.size + 1 + 1 + 1 + 1, 0, none⟩) 2 2] 43)).alloc (.cells #[.slice (some ⟨w.heap.size + 1 + 1, 0, none⟩) 2 2, .slice (some ⟨w.heap.size + 1 + 1 + 1 + 1 + 1, 0, none⟩) 2 2] 28)) (w.heap.size + 1 + 1 + 1 + 1 + 1) 43 #[.slice (some ⟨w.heap.size + 1 + 1 + 1, 0, none⟩) 2 2, .slice (some ⟨w.heap.size + 1 + 1 + 1 + 1, 0, none⟩) 2 2] := (Blk.new' (by simp) _ _).alloc _
  have BT : Blk (((((((w.alloc (.cells #[.int .i64 4, .int .i64 1] 2)).alloc (.cells #[.int .i64 2, .int .i64 0] 2)).alloc (.cells #[.slice (some ⟨w.heap.size, 0, none⟩) 2 2, .slice (some ⟨w.heap.size + 1, 0, none⟩) 2 2] 29)).alloc (.cells #[.bool false, .bool false] 4)).alloc (.cells #[.bool false, .bool false] 4)).alloc (.cells #[.slice (some ⟨w.heap.size + 1 + 1 + 1, 0, none⟩) 2 2, .slice (some ⟨w.heap.size + 1 + 1 + 1 + 1, 0, none⟩) 2 2] 43)).alloc (.cells #[.slice (some ⟨w.heap.size + 1 + 1, 0, none⟩) 2 2, .slice (some ⟨w.heap.size + 1 + 1 + 1 + 1 + 1, 0, none⟩) 2 2] 28)) (w.heap.size + 1 + 1 + 1 + 1 + 1 + 1) 28 #[.slice (some ⟨w.heap.size + 1 + 1, 0, none⟩) 2 2, .slice (some ⟨w.heap.size + 1 + 1 + 1 + 1 + 1, 0, none⟩) 2 2] := Blk.new' (by simp) _ _
  have bl0 : Below w.heap.size w (((((((w.alloc (.cells #[.int .i64 4, .int .i64 1] 2)).alloc (.cells #[.int .i64 2, .int .i64 0] 2)).alloc (.cells #[.slice (some ⟨w.heap.size, 0, none⟩) 2 2, .slice (some ⟨w.heap.size + 1, 0, none⟩) 2 2] 29)).alloc (.cells #[.bool false, .bool false] 4)).alloc (.cells #[.bool false, .bool false] 4)).alloc (.cells #[.slice (some ⟨w.heap.size + 1 + 1 + 1, 0, none⟩) 2 2, .slice (some ⟨w.heap.size + 1 + 1 + 1 + 1, 0, none⟩) 2 2] 43)).alloc (.cells #[.slice (some ⟨w.heap.size + 1 + 1, 0, none⟩) 2 2, .slice (some ⟨w.heap.size + 1 + 1 + 1 + 1 + 1, 0, none⟩) 2 2] 28)) := bl_alloc (bl_alloc (bl_alloc (bl_alloc (bl_alloc (bl_alloc (bl_alloc (Below.refl _ _) _) _) _) _) _) _) _
  have T0 := Lib.hid (tab0 h0 h1 h2 h3 h4 h5)
  have HP := Lib.hid (wk_prices _ T0.out)
  clear h0 h1 h2 h3 h4 h5
  go_enter Try.func13, Try.ntmps13
  go_wp2_with fail
  generalize (((((((w.alloc (.cells #[.int .i64 4, .int .i64 1] 2)).alloc (.cells #[.int .i64 2, .int .i64 0] 2)).alloc (.cells #[.slice (some ⟨w.heap.size, 0, none⟩) 2 2, .slice (some ⟨w.heap.size + 1, 0, none⟩) 2 2] 29)).alloc (.cells #[.bool false, .bool false] 4)).alloc (.cells #[.bool false, .bool false] 4)).alloc (.cells #[.slice (some ⟨w.heap.size + 1 + 1 + 1, 0, none⟩) 2 2, .slice (some ⟨w.heap.size + 1 + 1 + 1 + 1, 0, none⟩) 2 2] 43)).alloc (.cells #[.slice (some ⟨w.heap.size + 1 + 1, 0, none⟩) 2 2, .slice (some ⟨w.heap.size + 1 + 1 + 1 + 1 + 1, 0, none⟩) 2 2] 28)) = w7 at T0 BT bl0 HP ⊢
  (with_reducible refine HP.out.mono ?_); rintro e v1 ⟨⟨U, u, V, v, rfl, hU, hV⟩, hb1⟩
  have bl1 := bl_step bl0 hb1
  have BT1 := BT.below hb1
  have HU := Lib.hid hU
  have HV := Lib.hid hV
  have HB := Lib.hid (wk_bound _ _ _ _ _ _ _ (T0.out.below hb1) hU hV)
  clear hU hV hb1 bl0 BT T0 HP
  have t_z : w.heap.size + 1 + 1 + 1 + 1 + 1 + 1 < v1.heap.size := BT1.lt
  have t_c0 : v1.cell? ⟨w.heap.size + 1 + 1 + 1 + 1 + 1 + 1, 0, none⟩ = some (.slice (some ⟨w.heap.size + 1 + 1, 0, none⟩) 2 2) := (BT1.cell 0).trans rfl
  have t_f0 := BT1.frozen 0
  have t_c1 : v1.cell? ⟨w.heap.size + 1 + 1 + 1 + 1 + 1 + 1, 1, none⟩ = some (.slice (some ⟨w.heap.size + 1 + 1 + 1 + 1 + 1, 0, none⟩) 2 2) := (BT1.cell 1).trans rfl
  have t_f1 := BT1.frozen 1
  go_wp2_with fail
  (with_reducible refine HB.out.mono ?_); rintro e v2 ⟨rfl, hb2⟩
  have bl2 := bl_step bl1 hb2
  have nb2 : Below v2.heap.size v2 (v2.alloc (.cells #[.int .i64 1, .int .i64 0] 2)) := bl_alloc (Below.refl _ _) _
  have HE1 : Hid (Calls Try.prog 12 #[.slice U 2 u, .slice (some ⟨v2.heap.size, 0, none⟩) 2 2] (v2.alloc (.cells #[.int .i64 1, .int .i64 0] 2)) fun e w' => e = .returned (.bool true) ∧ Below (v2.alloc (.cells #[.int .i64 1, .int .i64 0] 2)).heap.size (v2.alloc (.cells #[.int .i64 1, .int .i64 0] 2)) w') := Lib.hid (equal_lit [1, 0] U u v2.heap.size 2 _ (own_below (own_below HU.out hb2) nb2) (Blk.new v2 2 #[.int .i64 1, .int .i64 0]))
  clear t_z t_c0 t_f0 t_c1 t_f1 HB
  go_wp2_with fail
  (with_reducible refine HE1.out.mono ?_); rintro e v3 ⟨rfl, hb3⟩
  have bl3 := bl_step (bl_step bl2 nb2) hb3
  have nb3 : Below v3.heap.size v3 (v3.alloc (.cells #[.int .i64 2, .int .i64 0] 2)) := bl_alloc (Below.refl _ _) _
  have HE2 : Hid (Calls Try.prog 12 #[.slice V 2 v, .slice (some ⟨v3.heap.size, 0, none⟩) 2 2] (v3.alloc (.cells #[.int .i64 2, .int .i64 0] 2)) fun e w' => e = .returned (.bool true) ∧ Below (v3.alloc (.cells #[.int .i64 2, .int .i64 0] 2)).heap.size (v3.alloc (.cells #[.int .i64 2, .int .i64 0] 2)) w') := Lib.hid (equal_lit [2, 0] V v v3.heap.size 2 _ (own_below (own_below (own_below (own_below HV.out hb2) nb2) hb3) nb3) (Blk.new v3 2 #[.int .i64 2, .int .i64 0]))
  clear HE1
  go_wp2_with fail
  (with_reducible refine HE2.out.mono ?_); rintro e v4 ⟨rfl, hb4⟩
  have bl4 := bl_step (bl_step bl3 nb3) hb4
  have nb4 : Below v4.heap.size v4 ((v4.alloc (.cells #[.int .i64 1] 2)).alloc (.cells #[.slice (some ⟨v4.heap.size, 0, none⟩) 1 1] 29)) := bl_alloc (bl_alloc (Below.refl _ _) _) _
  have HK := Lib.hid (chk1 v4.heap.size ((v4.alloc (.cells #[.int .i64 1] 2)).alloc (.cells #[.slice (some ⟨v4.heap.size, 0, none⟩) 1 1] 29)) ((Blk.new _ _ _).alloc _) (Blk.new' (by simp) _ _))
  clear HE2
  go_wp2_with fail
  (with_reducible refine HK.out.mono ?_); rintro e v5 ⟨rfl, hb5⟩
  go_wp2
  go_ret
  exact ⟨rfl, bl_step (bl_step bl4 nb4) hb5⟩
end Go.Proofs.Ytamfhommmogknaa
