/- ways: all ways to take one of each row. -/
import Derived.Test.YtamfhommmogknaaDW
import Derived.Test.YtamfhommmogknaaDN
namespace Go.Proofs.Ytamfhommmogknaa
open Go Go.RowKit
set_option linter.unusedVariables false
set_option linter.unusedSimpArgs false
set_option maxRecDepth 100000

/-- What the function that is called at the end of each way looks at. -/
structure LeastAt (w : World) (gO gN gP gM : Nat) (ok may : Bool) (n m : Int) : Prop where
  o : Blk w gO 4 #[.bool ok]
  n_ : Blk w gN 2 #[.int .i64 n]
  p : Blk w gP 4 #[.bool may]
  m_ : Blk w gM 2 #[.int .i64 m]
theorem LeastAt.below {w w' : World} {gO gN gP gM : Nat} {ok may : Bool} {n m : Int} (h : LeastAt w gO gN gP gM ok may n m) (hb : Below w.heap.size w w') : LeastAt w' gO gN gP gM ok may n m := ⟨h.o.below hb, h.n_.below hb, h.p.below hb, h.m_.below hb⟩
theorem LeastAt.mut {w w' : World} {gO gN gP gM g : Nat} {ok may : Bool} {n m : Int} (h : LeastAt w gO gN gP gM ok may n m) (k : Mut g w w') (ne : gO ≠ g ∧ gN ≠ g ∧ gP ≠ g ∧ gM ≠ g) : LeastAt w' gO gN gP gM ok may n m := ⟨h.o.mut k ne.1, h.n_.mut k ne.2.1, h.p.mut k ne.2.2.1, h.m_.mut k ne.2.2.2⟩
set_option maxHeartbeats 3200000 in
theorem least1_any (w : World) (gO gN gP gM : Nat) (ok may : Bool) (n m s : Int) (h : LeastAt w gO gN gP gM ok may n m) (h1 : ok = true ∧ n ≤ s ∧ (may = false ∨ m ≤ s)) :
    Calls Try.prog 17 #[.int .i64 s, .pointer (some ⟨gO, 0, none⟩), .pointer (some ⟨gN, 0, none⟩), .pointer (some ⟨gP, 0, none⟩), .pointer (some ⟨gM, 0, none⟩)] w fun e w' => e = .returned (.bool true) ∧ Below w.heap.size w w' := by
  obtain ⟨rfl, hn, hm⟩ := h1
  have q1 : ¬ s < n := by omega
  have BO := h.o
  have BN := h.n_
  have BP := h.p
  have BM := h.m_
  clear h
  cases may
  · clear hm
    have o_z : gO < w.heap.size := BO.lt
    have o_c0 : w.cell? ⟨gO, 0, none⟩ = some (.bool true) := (BO.cell 0).trans rfl
    have o_f0 := BO.frozen 0
    have n_z : gN < w.heap.size := BN.lt
    have n_c0 : w.cell? ⟨gN, 0, none⟩ = some (.int .i64 n) := (BN.cell 0).trans rfl
    have n_f0 := BN.frozen 0
    have p_z : gP < w.heap.size := BP.lt
    have p_c0 : w.cell? ⟨gP, 0, none⟩ = some (.bool false) := (BP.cell 0).trans rfl
    have p_f0 := BP.frozen 0
    have m_z : gM < w.heap.size := BM.lt
    have m_c0 : w.cell? ⟨gM, 0, none⟩ = some (.int .i64 m) := (BM.cell 0).trans rfl
    have m_f0 := BM.frozen 0
    go_enter Try.func17, Try.ntmps17
    go_wp2
    go_ret
    exact ⟨rfl, Below.refl _ _⟩
  · have q2 : ¬ s < m := by
      rcases hm with h | h
      · cases h
      · omega
    have q3 : m ≤ s := by omega
    clear hm
    have o_z : gO < w.heap.size := BO.lt
    have o_c0 : w.cell? ⟨gO, 0, none⟩ = some (.bool true) := (BO.cell 0).trans rfl
    have o_f0 := BO.frozen 0
    have n_z : gN < w.heap.size := BN.lt
    have n_c0 : w.cell? ⟨gN, 0, none⟩ = some (.int .i64 n) := (BN.cell 0).trans rfl
    have n_f0 := BN.frozen 0
    have p_z : gP < w.heap.size := BP.lt
    have p_c0 : w.cell? ⟨gP, 0, none⟩ = some (.bool true) := (BP.cell 0).trans rfl
    have p_f0 := BP.frozen 0
    have m_z : gM < w.heap.size := BM.lt
    have m_c0 : w.cell? ⟨gM, 0, none⟩ = some (.int .i64 m) := (BM.cell 0).trans rfl
    have m_f0 := BM.frozen 0
    go_enter Try.func17, Try.ntmps17
    go_wp2
    go_ret
    exact ⟨rfl, Below.refl _ _⟩
theorem set_same {α : Type} : ∀ {l : List α} {k : Nat} {x : α}, l[k]? = some x → l.set k x = l
  | [], k, x, h => rfl
  | y :: l, 0, x, h => by simp at h; subst h; rfl
  | y :: l, k + 1, x, h => by simp only [List.set_cons_succ]; rw [set_same (by simpa using h)]
set_option maxHeartbeats 12800000 in
theorem ways_any (c : List (List Int)) (no : List (List Bool)) (A1 A2 : Option Addr) (c1 c2 : Nat) {B base : Nat} (gO gN gP gM : Nat) (ok may : Bool) (n m : Int) (g : Nat) (hP : ChkP c no) (h6 : c.length ≤ 40)
    (hdone : ∀ (used : List Bool) (s : Int), WayAt c no c.length used s → ok = true ∧ n ≤ s ∧ (may = false ∨ m ≤ s)) (hB : B ≤ g) (ne : gO ≠ g ∧ gN ≠ g ∧ gP ≠ g ∧ gM ≠ g) :
    ∀ (f i : Nat) (used : List Bool) (s : Int) (w : World), i + f = c.length → WayAt c no i used s → TabAt w B c no A1 c1 A2 c2 → LeastAt w gO gN gP gM ok may n m → w.ownsRow base 4 1 (.slice (some ⟨g, 0, none⟩) c.length c.length) c.length (used.map Value.bool) →
    Calls Try.prog 16 #[.slice A1 c.length c1, .slice A2 c.length c2, .int .i64 (i : Nat), .slice (some ⟨g, 0, none⟩) c.length c.length, .int .i64 s, .func (Fn.func 17) #[] #[.pointer (some ⟨gO, 0, none⟩), .pointer (some ⟨gN, 0, none⟩), .pointer (some ⟨gP, 0, none⟩), .pointer (some ⟨gM, 0, none⟩)]] w fun e w' => e = .returned (.bool true) ∧ w'.ownsRow base 4 1 (.slice (some ⟨g, 0, none⟩) c.length c.length) c.length (used.map Value.bool) ∧ Mut g w w' := by
  intro f
  induction f with
  | zero =>
    intro i used s w hi hW hI hL hO
    obtain rfl : i = c.length := by omega
    have HC := Lib.hid (least1_any w gO gN gP gM ok may n m s hL (hdone used s hW))
    have HO := Lib.hid hO
    have gl : g < w.heap.size ∨ c.length = 0 := by
      by_cases h0 : c.length = 0
      · exact .inr h0
      · left
        obtain ⟨g', e, _, h, _⟩ := own_lt hO (by omega)
        simp at e
        omega
    have hg : g ≤ w.heap.size := Nat.le_of_lt (own_some_lt hO)
    clear hW hI hL hO hdone
    go_enter Try.func16, Try.ntmps16
    go_wp2_with fail
    (with_reducible refine HC.out.mono ?_); rintro e v1 ⟨rfl, hb1⟩
    go_wp2
    go_ret
    exact ⟨rfl, own_below HO.out hb1, Mut.of_below hb1 hg⟩
  | succ f ih =>
    intro i used s w hi hW hI hL hO
    have hlt : i < c.length := by omega
    have f1 : ((i : Int) == (c.length : Int)) = false := by simp; omega
    have f2 : ¬ (i : Int) = (c.length : Int) := by omega
    have f3 : (i == c.length) = false := by simp; omega
    have hg : g ≤ w.heap.size := Nat.le_of_lt (own_some_lt hO)
    obtain ⟨r, hr⟩ : ∃ r, c[i]? = some r := ⟨_, List.getElem?_eq_getElem hlt⟩
    obtain ⟨e1, ⟨q, hq, e2⟩, hrin⟩ := hP.2.2 i r hr
    obtain ⟨b, o, A', c', rfl, hb, hc, m1, m2, hrd⟩ := hI.cost.get hr
    obtain ⟨b2, o2, Q', d', rfl, hb2, hd, k1, k2, hqd⟩ := hI.no_.get hq
    rw [e1] at hc m1
    rw [e2] at hd k1
    have HI := Lib.hid hI
    have HL := Lib.hid hL
    have HO := Lib.hid hO
    have HWY := Lib.hid hW
    have HR := Lib.hid hr
    have HQ := Lib.hid hq
    have HRD := Lib.hid hrd
    have HQD := Lib.hid hqd
    have HCC := Lib.hid hc
    have HD := Lib.hid hd
    have E1 := Lib.hid e1
    have E2 := Lib.hid e2
    have HRI := Lib.hid hrin
    have HP := Lib.hid hP
    have IH := Lib.hid ih
    have i1 : (i : Int) < (c.length : Int) := by omega
    have i0 : (0 : Int) ≤ (i : Int) := by omega
    have wi : IntKind.i64.wrap ((i : Int) + 1) = (i : Int) + 1 := by rw [IntKind.wrap_i64]; omega
    have HM0 := Lib.hid (Mut.refl g w)
    clear hI hL hO hW hr hq hrd hqd hc hd e1 e2 hrin ih hdone hP
    go_enter Try.func16, Try.ntmps16
    go_wp2_with fail
    go_loopw [24] (fun vk wr => ∃ (k : Nat), vk = .int .i64 k ∧ k ≤ c.length ∧ Hid (wr.ownsRow base 4 1 (.slice (some ⟨g, 0, none⟩) c.length c.length) c.length (used.map Value.bool)) ∧ Hid (Mut g w wr)) (fun vk _ => c.length - (intOf vk).toNat)
    case atStart => exact ⟨0, rfl, Nat.zero_le _, HO, HM0⟩
    case round =>
      clear HO HM0
      obtain ⟨k, rfl, hk, HO, HM⟩ := hrel
      by_cases hkl : k < c.length
      · obtain ⟨x, hx⟩ : ∃ x, r[k]? = some x := ⟨_, List.getElem?_eq_getElem (by have := E1.out; omega)⟩
        obtain ⟨z, hz⟩ : ∃ z, q[k]? = some z := ⟨_, List.getElem?_eq_getElem (by have := E2.out; omega)⟩
        obtain ⟨u, hu⟩ : ∃ u, used[k]? = some u := ⟨_, List.getElem?_eq_getElem (by have := HWY.out.len; omega)⟩
        obtain ⟨b3, o3, rfl, hb3, hc3⟩ := HRD.out.get hx
        obtain ⟨b4, o4, rfl, hb4, hc4⟩ := HQD.out.get hz
        have AL := HM.out.alike hB
        have hx1 := (AL ⟨b, o + i, none⟩ hb).trans HCC.out
        have hx2 := (AL ⟨b2, o2 + i, none⟩ hb2).trans HD.out
        have hx3 := (AL ⟨b3, o3 + k, none⟩ hb3).trans hc3
        have hx4 := (AL ⟨b4, o4 + k, none⟩ hb4).trans hc4
        obtain ⟨ua, uf, ub, us⟩ := own_cellB HO.out hkl hu
        have kk1 : (k : Int) < (c.length : Int) := by omega
        have kk0 : (0 : Int) ≤ (k : Int) := by omega
        have HXX := Lib.hid hx
        have HZ := Lib.hid hz
        have HU := Lib.hid hu
        have HX1 := Lib.hid hx1
        have HX3 := Lib.hid hx3
        clear hx hz hu hc3 hc4 AL
        cases u
        · cases z
          · have st := HWY.out.step HP.out HR.out HQ.out HXX.out HZ.out HU.out
            have sb := HWY.out.bd
            have xb := HRI.out x (List.mem_of_getElem? HXX.out)
            obtain ⟨s1, s2⟩ := sb
            obtain ⟨x1, x2⟩ := xb
            have ws : IntKind.i64.wrap (s + x) = s + x := by rw [IntKind.wrap_i64]; omega
            have HO2 : Hid ((wr.setCell ⟨g, k, none⟩ (.bool true)).ownsRow base 4 1 (.slice (some ⟨g, 0, none⟩) c.length c.length) c.length ((used.set k true).map Value.bool)) := Lib.hid (by rw [List.map_set]; exact own_store HO.out k (by omega) (.bool true))
            have HM2 := Lib.hid (HM.out.set k (.bool true))
            have hx1' := (HM2.out.alike hB ⟨b, o + i, none⟩ hb).trans HCC.out
            have hx3' : (wr.setCell ⟨g, k, none⟩ (.bool true)).cell? ⟨b3, o3 + k, none⟩ = some (.int .i64 x) := by
              rw [World.cell?_setCell_other _ _ _ _ (fun e => by injection e with e; omega)]
              exact HX3.out
            have CT := IH.out (i + 1) (used.set k true) (s + x) (wr.setCell ⟨g, k, none⟩ (.bool true)) (by omega) st (HI.out.keep (HM2.out.alike hB) HM2.out.bl.size) (HL.out.mut HM2.out ne) HO2.out
            have e1 : ((i + 1 : Nat) : Int) = (i : Int) + 1 := by omega
            rw [e1] at CT
            replace CT := Lib.hid CT
            clear st s1 s2 x1 x2 e1
            go_wp2_with fail
            (with_reducible refine CT.out.mono ?_); rintro e v1 ⟨rfl, ho1, hm1⟩
            have HO3 := Lib.hid ho1
            have HM3 := Lib.hid (HM2.out.trans (hm1.trans (Mut.refl _ _)))
            obtain ⟨ca, cf, cb, cs⟩ := own_cellB HO3.out hkl (show (used.set k true)[k]? = some true by rw [List.getElem?_set_self (by have := HWY.out.len; omega)])
            have HO4 : Hid ((v1.setCell ⟨g, k, none⟩ (.bool false)).ownsRow base 4 1 (.slice (some ⟨g, 0, none⟩) c.length c.length) c.length (used.map Value.bool)) := Lib.hid (by
              have h := own_store HO3.out k (by omega) (.bool false)
              rw [← List.map_set, List.set_set, set_same HU.out] at h
              exact h)
            have HM4 := Lib.hid (HM3.out.set k (.bool false))
            clear ho1 hm1 CT HO2 HM2 hx1 hx2 hx3 hx4 hx1' hx3' ua uf ub us
            go_wp2_with fail
            go_roundw
            case rel => exact ⟨k + 1, by go_num, by omega, HO4, HM4⟩
            case measure => simp only [intOf]; omega
          · go_wp2_with fail
            go_roundw
            case rel => exact ⟨k + 1, by go_num, by omega, HO, HM⟩
            case measure => simp only [intOf]; omega
        · go_wp2_with fail
          go_roundw
          case rel => exact ⟨k + 1, by go_num, by omega, HO, HM⟩
          case measure => simp only [intOf]; omega
      · obtain rfl : k = c.length := by omega
        clear hkl hk
        go_wp2
        go_ret
        exact ⟨rfl, HO.out, HM.out⟩
end Go.Proofs.Ytamfhommmogknaa
