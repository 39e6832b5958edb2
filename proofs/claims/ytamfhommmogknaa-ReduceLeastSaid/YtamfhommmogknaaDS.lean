/- Bound. -/
import Derived.Test.YtamfhommmogknaaDR
namespace Go.Proofs.Ytamfhommmogknaa
open Go Go.RowKit
set_option linter.unusedVariables false
set_option linter.unusedSimpArgs false
set_option maxRecDepth 100000

def BoundP (c : List (List Int)) (no : List (List Bool)) (rows cols : List Int) : Prop := ChkP c no ∧ rows.length = c.length ∧ cols.length = c.length ∧ (∀ x ∈ rows, InW x) ∧ (∀ x ∈ cols, InW x) ∧ FairTo c no rows cols c.length 0
def BoundPost (w : World) (c : List (List Int)) (no : List (List Bool)) (rows cols : List Int) (e : Ending) (w' : World) : Prop :=
  ((BoundP c no rows cols ∧ e = .returned (.tuple #[.int .i64 (rows.sum + cols.sum), .bool true])) ∨ (¬ BoundP c no rows cols ∧ e = .returned (.tuple #[.int .i64 0, .bool false]))) ∧ Below w.heap.size w w'
theorem farW_off {x : Int} (h : farB x 549755813888 = false) : InW x := by simp [farB] at h; exact ⟨by omega, by omega⟩
theorem farW_on {x : Int} (h : farB x 549755813888 = true) : ¬ InW x := by simp [farB] at h; unfold InW; omega
theorem sum_w (l : List Int) (h : ∀ x ∈ l, InW x) : -(l.length * 549755813888 : Int) ≤ l.sum ∧ l.sum ≤ (l.length * 549755813888 : Int) := by
  induction l with
  | nil => simp
  | cons x l ih =>
    have h1 := ih (fun y hy => h y (by simp [hy]))
    have h2 := h x (by simp)
    obtain ⟨h3, h4⟩ := h2
    simp only [List.length_cons, List.sum_cons]
    have e : ((l.length + 1 : Nat) : Int) * 549755813888 = (l.length : Int) * 549755813888 + 549755813888 := by rw [Int.natCast_add, Int.add_mul]; simp
    rw [e]
    omega
theorem fit_id {z : Int} (h : InI z) : fitN z = z ∧ fitB z = true := by
  obtain ⟨h1, h2⟩ := h
  constructor
  · unfold fitN; rw [if_pos ⟨h1, h2⟩]
  · unfold fitB; exact decide_eq_true ⟨h1, h2⟩
theorem hasW_all (l : List Int) (V : Option Addr) (v n : Nat) (w : World) {base : Nat} (h : w.ownsRow base 2 1 (.slice V n v) n (l.map (Value.int .i64))) (hn : l.length = n) : Calls Try.prog 23 #[.slice V n v, .func (Fn.func 27) #[] #[]] w fun e w' => e = .returned (.bool (l.any fun x => farB x 549755813888)) ∧ Below w.heap.size w w' := by
  subst hn
  exact hasW_any l V v w (Reads.of_own h) (cap_of h) (Nat.le_refl _)
theorem sum_row (l : List Int) (V : Option Addr) (v n : Nat) (w : World) {base : Nat} (h : w.ownsRow base 2 1 (.slice V n v) n (l.map (Value.int .i64))) (hn : l.length = n) (hn2 : n ≤ 1000000) (hi : ∀ x ∈ l, InI x) : Calls Try.prog 29 #[.slice V n v] w fun e w' => e = .returned (.tuple #[.int .i64 (fitN l.sum), .bool (fitB l.sum)]) ∧ Below w.heap.size w w' := by
  subst hn
  refine NSum_any V v l w hn2 hi fun h0 => ?_
  obtain ⟨g, rfl, _, _, hc, _⟩ := own_lt h h0
  refine ⟨_, rfl, fun j u hu => ?_⟩
  have := hc j (.int .i64 u) (by rw [List.getElem?_map, hu]; rfl)
  rw [show ((⟨g, 0, none⟩ : Addr).add j) = ⟨g, j, none⟩ by unfold Addr.add; split <;> simp_all]
  exact this
set_option maxHeartbeats 12800000 in
theorem bound_n (c : List (List Int)) (no : List (List Bool)) (rows cols : List Int) (A1 A2 R C : Option Addr) (c1 c2 rc cc rn cn : Nat) (w : World) {B : Nat} (hI : TabAt w B c no A1 c1 A2 c2) (hr : RdI w B R rows) (hc : RdI w B C cols) (hrn : rows.length = rn) (hcn : cols.length = cn) (h3 : rn ≤ 400) (h4 : cn ≤ 400) (hri : ∀ x ∈ rows, InI x) (hci : ∀ x ∈ cols, InI x) :
    Calls Try.prog 14 #[.agg #[.slice A1 c.length c1, .slice A2 no.length c2], .slice R rn rc, .slice C cn cc] w fun e w' => BoundPost w c no rows cols e w' := by
  have HI := Lib.hid hI
  have HR := Lib.hid hr
  have HCC := Lib.hid hc
  have N1 := hI.n1
  have N2 := hI.n2
  have bd := hI.bd
  have bl2 : Below w.heap.size w ((w.alloc (.cells #[.slice A1 c.length c1, .slice A2 no.length c2] 28)).alloc (.cells #[.slice R rn rc, .slice C cn cc] 29)) := bl_alloc (bl_alloc (Below.refl _ _) _) _
  have hk := Alike.of_below bl2 bd
  have HCON : Hid (Calls Try.prog 26 #[.slice (some ⟨w.heap.size + 1, 0, none⟩) 2 2] ((w.alloc (.cells #[.slice A1 c.length c1, .slice A2 no.length c2] 28)).alloc (.cells #[.slice R rn rc, .slice C cn cc] 29)) fun e w' => ∃ V v, e = .returned (.slice V (rn + cn) v) ∧ w'.ownsRow ((w.alloc (.cells #[.slice A1 c.length c1, .slice A2 no.length c2] 28)).alloc (.cells #[.slice R rn rc, .slice C cn cc] 29)).heap.size 2 1 (.slice V (rn + cn) v) (rn + cn) ((rows ++ cols).map (Value.int .i64)) ∧ Below ((w.alloc (.cells #[.slice A1 c.length c1, .slice A2 no.length c2] 28)).alloc (.cells #[.slice R rn rc, .slice C cn cc] 29)).heap.size ((w.alloc (.cells #[.slice A1 c.length c1, .slice A2 no.length c2] 28)).alloc (.cells #[.slice R rn rc, .slice C cn cc] 29)) w') := Lib.hid (by
    subst hrn
    subst hcn
    exact concat_any rows cols R C rc cc (w.heap.size + 1) 29 _ (B := B) (Blk.new' (w := w.alloc (.cells #[.slice A1 c.length c1, .slice A2 no.length c2] 28)) (by simp) 29 #[.slice R rows.length rc, .slice C cols.length cc]) (hr.keep hk) (hc.keep hk) (by simp; omega) h3 h4)
  have Bt : Blk ((w.alloc (.cells #[.slice A1 c.length c1, .slice A2 no.length c2] 28)).alloc (.cells #[.slice R rn rc, .slice C cn cc] 29)) w.heap.size 28 #[.slice A1 c.length c1, .slice A2 no.length c2] := (Blk.new _ _ _).alloc _
  have HCK := Lib.hid (fun w' (hb : Below w.heap.size w w') => chk_any c no A1 A2 c1 c2 w' (hI.below hb))
  have HRI := Lib.hid hri
  have HCI := Lib.hid hci
  have HRN := Lib.hid hrn
  have HCN := Lib.hid hcn
  clear hI hr hc hk hri hci hrn hcn
  go_enter Try.func14, Try.ntmps14
  go_wp2_with fail
  (with_reducible refine HCON.out.mono ?_); rintro e v1 ⟨V, v, rfl, hown, hb1⟩
  have bl1 := bl_step bl2 hb1
  have Bt1 := Bt.below hb1
  have HO := Lib.hid hown
  clear hown hb1 Bt bl2 HCON
  have HCK1 := Lib.hid (HCK.out _ bl1)
  have t1_z : w.heap.size < v1.heap.size := Bt1.lt
  have t1_c0 : v1.cell? ⟨w.heap.size, 0, none⟩ = some (.slice A1 c.length c1) := (Bt1.cell 0).trans rfl
  have t1_f0 := Bt1.frozen 0
  have t1_c1 : v1.cell? ⟨w.heap.size, 1, none⟩ = some (.slice A2 no.length c2) := (Bt1.cell 1).trans rfl
  have t1_f1 := Bt1.frozen 1
  by_cases hP : ChkP c no
  · rw [chkB_t hP] at HCK1
    have HP := Lib.hid hP
    by_cases hl1 : rn = c.length
    · subst hl1
      by_cases hl2 : cn = c.length
      · subst hl2
        clear hP
        have HW := Lib.hid (fun w' (hb : Below v1.heap.size v1 w') => hasW_all (rows ++ cols) V v (c.length + c.length) w' (own_below HO.out hb) (by rw [List.length_append, HRN.out, HCN.out]))
        obtain ⟨f, hf⟩ : ∃ f, ((rows ++ cols).any fun x => farB x 549755813888) = f := ⟨_, rfl⟩
        rw [hf] at HW
        cases f
        · have hrw : (∀ x ∈ rows, InW x) ∧ ∀ x ∈ cols, InW x := ⟨fun x hx => farW_off (by have := List.any_eq_false.1 hf x (by simp [hx]); simpa using this), fun x hx => farW_off (by have := List.any_eq_false.1 hf x (by simp [hx]); simpa using this)⟩
          have HRW := Lib.hid hrw
          have HF : Hid (∀ w' (hb : Below w.heap.size w w'), Calls Try.prog 28 #[.agg #[.slice A1 c.length c1, .slice A2 no.length c2], .slice R c.length rc, .slice C c.length cc] w' fun e w'' => e = .returned (.bool (fairB c no rows cols c.length 0)) ∧ Below w'.heap.size w' w'') := Lib.hid (fun w' hb => by
            rw [HP.out.2.1]
            have hk := Alike.of_below hb bd
            exact fair_any c no rows cols A1 A2 c1 c2 w' (HI.out.below hb) HP.out ⟨HRN.out, HCN.out⟩ HRW.out (HR.out.keep hk) (HCC.out.keep hk))
          obtain ⟨g, hg⟩ : ∃ g, fairB c no rows cols c.length 0 = g := ⟨_, rfl⟩
          rw [hg] at HF
          clear hf hrw
          cases g
          · have HN := Lib.hid (show ¬ BoundP c no rows cols from fun h => by have := fairB_iff.2 h.2.2.2.2.2; rw [hg] at this; cases this)
            clear hg
            go_wp2_with fail
            (with_reducible refine HCK1.out.mono ?_); rintro e v2 ⟨rfl, hb2⟩
            have bl2 := bl_step bl1 hb2
            have Bt2 := Bt1.below hb2
            have HO2 := Lib.hid (own_below HO.out hb2)
            clear t1_z t1_c0 t1_f0 t1_c1 t1_f1
            have t2_z : w.heap.size < v2.heap.size := Bt2.lt
            have t2_c0 : v2.cell? ⟨w.heap.size, 0, none⟩ = some (.slice A1 c.length c1) := (Bt2.cell 0).trans rfl
            have t2_f0 := Bt2.frozen 0
            have t2_c1 : v2.cell? ⟨w.heap.size, 1, none⟩ = some (.slice A2 no.length c2) := (Bt2.cell 1).trans rfl
            have t2_f1 := Bt2.frozen 1
            go_wp2_with fail
            (with_reducible refine (HW.out _ hb2).mono ?_); rintro e v3 ⟨rfl, hb3⟩
            have bl3 := bl_step bl2 hb3
            have Bt3 := Bt2.below hb3
            have HO3 := Lib.hid (own_below HO2.out hb3)
            clear t2_z t2_c0 t2_f0 t2_c1 t2_f1
            have t3_z : w.heap.size < v3.heap.size := Bt3.lt
            have t3_c0 : v3.cell? ⟨w.heap.size, 0, none⟩ = some (.slice A1 c.length c1) := (Bt3.cell 0).trans rfl
            have t3_f0 := Bt3.frozen 0
            have t3_c1 : v3.cell? ⟨w.heap.size, 1, none⟩ = some (.slice A2 no.length c2) := (Bt3.cell 1).trans rfl
            have t3_f1 := Bt3.frozen 1
            go_wp2_with fail
            (with_reducible refine (HF.out _ bl3).mono ?_); rintro e v4 ⟨rfl, hb4⟩
            go_wp2_with fail
            refine bodyPost_ret (v := .tuple #[.int .i64 0, .bool false]) (by simp [results, Try.results14, go_sem]) rfl ⟨.inr ⟨HN.out, rfl⟩, bl_step bl3 hb4⟩
          · have HG := Lib.hid (fairB_iff.1 hg)
            clear hg
            go_wp2_with fail
            (with_reducible refine HCK1.out.mono ?_); rintro e v2 ⟨rfl, hb2⟩
            have bl2 := bl_step bl1 hb2
            have Bt2 := Bt1.below hb2
            have HO2 := Lib.hid (own_below HO.out hb2)
            clear t1_z t1_c0 t1_f0 t1_c1 t1_f1
            have t2_z : w.heap.size < v2.heap.size := Bt2.lt
            have t2_c0 : v2.cell? ⟨w.heap.size, 0, none⟩ = some (.slice A1 c.length c1) := (Bt2.cell 0).trans rfl
            have t2_f0 := Bt2.frozen 0
            have t2_c1 : v2.cell? ⟨w.heap.size, 1, none⟩ = some (.slice A2 no.length c2) := (Bt2.cell 1).trans rfl
            have t2_f1 := Bt2.frozen 1
            go_wp2_with fail
            (with_reducible refine (HW.out _ hb2).mono ?_); rintro e v3 ⟨rfl, hb3⟩
            have bl3 := bl_step bl2 hb3
            have Bt3 := Bt2.below hb3
            have HO3 := Lib.hid (own_below HO2.out hb3)
            clear t2_z t2_c0 t2_f0 t2_c1 t2_f1
            have t3_z : w.heap.size < v3.heap.size := Bt3.lt
            have t3_c0 : v3.cell? ⟨w.heap.size, 0, none⟩ = some (.slice A1 c.length c1) := (Bt3.cell 0).trans rfl
            have t3_f0 := Bt3.frozen 0
            have t3_c1 : v3.cell? ⟨w.heap.size, 1, none⟩ = some (.slice A2 no.length c2) := (Bt3.cell 1).trans rfl
            have t3_f1 := Bt3.frozen 1
            go_wp2_with fail
            (with_reducible refine (HF.out _ bl3).mono ?_); rintro e v4 ⟨rfl, hb4⟩
            have bl4 := bl_step bl3 hb4
            have HO4 := Lib.hid (own_below HO3.out hb4)
            have HS := Lib.hid (sum_row (rows ++ cols) V v (c.length + c.length) v4 HO4.out (by rw [List.length_append, HRN.out, HCN.out]) (by have := HP.out.1; omega) (fun x hx => by rcases List.mem_append.1 hx with h | h; exact HRI.out x h; exact HCI.out x h))
            have hz : InI (rows ++ cols).sum := by
              have h64 := HP.out.1
              have s1 := sum_w rows HRW.out.1
              have s2 := sum_w cols HRW.out.2
              rw [HRN.out] at s1
              rw [HCN.out] at s2
              rw [List.sum_append]
              constructor
              · omega
              · omega
            rw [(fit_id hz).1, (fit_id hz).2, List.sum_append] at HS
            clear hz
            go_wp2_with fail
            (with_reducible refine HS.out.mono ?_); rintro e v5 ⟨rfl, hb5⟩
            go_wp2_with fail
            refine bodyPost_ret (v := .tuple #[.int .i64 (rows.sum + cols.sum), .bool true]) (by simp [results, Try.results14, go_sem]) rfl ⟨.inl ⟨⟨HP.out, HRN.out, HCN.out, HRW.out.1, HRW.out.2, HG.out⟩, rfl⟩, bl_step bl4 hb5⟩
        · have HN := Lib.hid (show ¬ BoundP c no rows cols from fun h => by
            obtain ⟨x, hx, h2⟩ := List.any_eq_true.1 hf
            rcases List.mem_append.1 hx with h3 | h3
            · exact farW_on h2 (h.2.2.2.1 x h3)
            · exact farW_on h2 (h.2.2.2.2.1 x h3))
          clear hf
          go_wp2_with fail
          (with_reducible refine HCK1.out.mono ?_); rintro e v2 ⟨rfl, hb2⟩
          have bl2 := bl_step bl1 hb2
          have Bt2 := Bt1.below hb2
          have HO2 := Lib.hid (own_below HO.out hb2)
          clear t1_z t1_c0 t1_f0 t1_c1 t1_f1
          have t2_z : w.heap.size < v2.heap.size := Bt2.lt
          have t2_c0 : v2.cell? ⟨w.heap.size, 0, none⟩ = some (.slice A1 c.length c1) := (Bt2.cell 0).trans rfl
          have t2_f0 := Bt2.frozen 0
          have t2_c1 : v2.cell? ⟨w.heap.size, 1, none⟩ = some (.slice A2 no.length c2) := (Bt2.cell 1).trans rfl
          have t2_f1 := Bt2.frozen 1
          go_wp2_with fail
          (with_reducible refine (HW.out _ hb2).mono ?_); rintro e v3 ⟨rfl, hb3⟩
          have bl3 := bl_step bl2 hb3
          have Bt3 := Bt2.below hb3
          have HO3 := Lib.hid (own_below HO2.out hb3)
          clear t2_z t2_c0 t2_f0 t2_c1 t2_f1
          go_wp2_with fail
          refine bodyPost_ret (v := .tuple #[.int .i64 0, .bool false]) (by simp [results, Try.results14, go_sem]) rfl ⟨.inr ⟨HN.out, rfl⟩, bl3⟩
      · have HN := Lib.hid (show ¬ BoundP c no rows cols from fun h => hl2 (by have := h.2.2.1; rw [HCN.out] at this; exact this))
        have f1 : ((cn : Int) == (c.length : Int)) = false := by simp; omega
        have f2 : ¬ (cn : Int) = (c.length : Int) := by omega
        have f3 : (cn == c.length) = false := by simpa using hl2
        clear hP
        go_wp2_with fail
        (with_reducible refine HCK1.out.mono ?_); rintro e v2 ⟨rfl, hb2⟩
        have bl2 := bl_step bl1 hb2
        have Bt2 := Bt1.below hb2
        have HO2 := Lib.hid (own_below HO.out hb2)
        clear t1_z t1_c0 t1_f0 t1_c1 t1_f1
        go_wp2_with fail
        refine bodyPost_ret (v := .tuple #[.int .i64 0, .bool false]) (by simp [results, Try.results14, go_sem]) rfl ⟨.inr ⟨HN.out, rfl⟩, bl2⟩
    · have HN := Lib.hid (show ¬ BoundP c no rows cols from fun h => hl1 (by have := h.2.1; rw [HRN.out] at this; exact this))
      have f1 : ((rn : Int) == (c.length : Int)) = false := by simp; omega
      have f2 : ¬ (rn : Int) = (c.length : Int) := by omega
      have f3 : (rn == c.length) = false := by simpa using hl1
      clear hP
      go_wp2_with fail
      (with_reducible refine HCK1.out.mono ?_); rintro e v2 ⟨rfl, hb2⟩
      have bl2 := bl_step bl1 hb2
      have Bt2 := Bt1.below hb2
      have HO2 := Lib.hid (own_below HO.out hb2)
      clear t1_z t1_c0 t1_f0 t1_c1 t1_f1
      go_wp2_with fail
      refine bodyPost_ret (v := .tuple #[.int .i64 0, .bool false]) (by simp [results, Try.results14, go_sem]) rfl ⟨.inr ⟨HN.out, rfl⟩, bl2⟩
  · rw [chkB_f hP] at HCK1
    have HN := Lib.hid (show ¬ BoundP c no rows cols from fun h => hP h.1)
    clear hP
    go_wp2_with fail
    (with_reducible refine HCK1.out.mono ?_); rintro e v2 ⟨rfl, hb2⟩
    have bl2 := bl_step bl1 hb2
    have Bt2 := Bt1.below hb2
    have HO2 := Lib.hid (own_below HO.out hb2)
    clear t1_z t1_c0 t1_f0 t1_c1 t1_f1
    go_wp2_with fail
    refine bodyPost_ret (v := .tuple #[.int .i64 0, .bool false]) (by simp [results, Try.results14, go_sem]) rfl ⟨.inr ⟨HN.out, rfl⟩, bl2⟩
end Go.Proofs.Ytamfhommmogknaa
