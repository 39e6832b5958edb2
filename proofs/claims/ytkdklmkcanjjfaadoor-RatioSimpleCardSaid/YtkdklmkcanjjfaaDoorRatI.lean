/- The walks of ratio, part I: what Add and Mul hand back. -/
import Derived.Test.YtkdklmkcanjjfaaDoorRatH
namespace Go.Proofs.YtkdklmkcanjjfaaDoor
open Go.RowKit
set_option linter.unusedVariables false
set_option linter.unusedSimpArgs false
set_option maxRecDepth 100000

def addX (a b c d : Int) : Int := a * (d / gd b d)
def addY (a b c d : Int) : Int := c * (b / gd b d)
def addM (a b c d : Int) : Int := b * (d / gd b d)
def addOk (a b c d : Int) : Bool := (goodB a b && goodB c d) && (((fitB (addX a b c d) && fitB (addY a b c d)) && fitB (addX a b c d + addY a b c d)) && fitB (addM a b c d))
def addB (a b c d : Int) : Bool := addOk a b c d && mkB (addX a b c d + addY a b c d) (addM a b c d)
def addN (a b c d : Int) : Int := if addOk a b c d = true then mkN (addX a b c d + addY a b c d) (addM a b c d) else 0
def addD (a b c d : Int) : Int := if addOk a b c d = true then mkD (addX a b c d + addY a b c d) (addM a b c d) else 0
def mulX (a b c d : Int) : Int := (a / gd a d) * (c / gd c b)
def mulM (a b c d : Int) : Int := (b / gd c b) * (d / gd a d)
def mulOk (a b c d : Int) : Bool := (goodB a b && goodB c d) && (fitB (mulX a b c d) && fitB (mulM a b c d))
def mulB (a b c d : Int) : Bool := mulOk a b c d && mkB (mulX a b c d) (mulM a b c d)
def mulN (a b c d : Int) : Int := if mulOk a b c d = true then mkN (mulX a b c d) (mulM a b c d) else 0
def mulD (a b c d : Int) : Int := if mulOk a b c d = true then mkD (mulX a b c d) (mulM a b c d) else 0
theorem good_pos {a b : Int} (h : goodB a b = true) : 0 < b := by unfold goodB at h; simp at h; exact h.1
theorem good_gd {a b : Int} (h : goodB a b = true) : gd a b = 1 := by unfold goodB at h; simp at h; exact h.2
/-- A divisor of something above 0 and of 64 bits. -/
theorem gd_in (a : Int) {b : Int} (h : 0 < b) (ib : InI b) : InI (gd a b) ∧ 0 < gd a b := by
  have h1 := gd_pos a (show b ≠ 0 by omega)
  have h2 := gd_le a (show b ≠ 0 by omega)
  obtain ⟨b1, b2⟩ := ib
  exact ⟨⟨by omega, by omega⟩, h1⟩
theorem tdiv_gd_left (a b : Int) : a.tdiv (gd a b) = a / gd a b := Int.tdiv_eq_ediv_of_dvd (gd_dvd_left a b)
theorem tdiv_gd_right (a b : Int) : b.tdiv (gd a b) = b / gd a b := Int.tdiv_eq_ediv_of_dvd (gd_dvd_right a b)
theorem wrap_id {x : Int} (h : InI x) : IntKind.i64.wrap x = x := by obtain ⟨h1, h2⟩ := h; rw [IntKind.wrap_i64]; omega
theorem gcd_fit (a : Int) {b : Int} (h : 0 < b) (ia : InI a) (ib : InI b) (w : World) :
    Calls Tryd.prog 37 #[.int .i64 a, .int .i64 b] w fun e w' => e = .returned (.tuple #[.int .i64 (gd a b), .bool true]) ∧ Below w.heap.size w w' := by
  have h1 := gcd_c a b w ia ib
  rw [fitN_of (gd_in a h ib).1, fitB_iff.2 (gd_in a h ib).1] at h1
  exact h1
theorem mul_fit {a b : Int} (h : fitB (a * b) = true) (ia : InI a) (ib : InI b) (w : World) :
    Calls Tryd.prog 56 #[.int .i64 a, .int .i64 b] w fun e w' => e = .returned (.tuple #[.int .i64 (a * b), .bool true]) ∧ Below w.heap.size w w' := by
  have h1 := Mul_any a b w ia ib
  rw [fitN_yes h, h] at h1
  exact h1
theorem add_fit {a b : Int} (h : fitB (a + b) = true) (ia : InI a) (ib : InI b) (w : World) :
    Calls Tryd.prog 57 #[.int .i64 a, .int .i64 b] w fun e w' => e = .returned (.tuple #[.int .i64 (a + b), .bool true]) ∧ Below w.heap.size w w' := by
  have h1 := Add_any a b w ia ib
  rw [fitN_yes h, h] at h1
  exact h1

theorem radd_any (a b c d : Int) (w : World) (ia : InI a) (ib : InI b) (ic : InI c) (id : InI d) :
    Calls Tryd.prog 27 #[.agg #[.int .i64 a, .int .i64 b], .agg #[.int .i64 c, .int .i64 d]] w fun e w' => e = .returned (.tuple #[.agg #[.int .i64 (addN a b c d), .int .i64 (addD a b c d)], .bool (addB a b c d)]) ∧ Below w.heap.size w w' := by
  have HB := fun w => both_any a b c d w ia ib ic id
  cases hg : (goodB a b && goodB c d)
  · rw [hg] at HB
    have hok : addOk a b c d = false := by unfold addOk; rw [hg]; rfl
    unfold addB addN addD
    rw [hok]
    exact radd_no a b c d w (Lib.hid HB)
  · rw [hg] at HB
    simp only [Bool.and_eq_true] at hg
    have b0 := good_pos hg.1
    have d0 := good_pos hg.2
    obtain ⟨ig, g0⟩ := gd_in b d0 id
    have ip := ediv_in ib g0 (gd_dvd_left b d)
    have iq := ediv_in id g0 (gd_dvd_right b d)
    have hgz : (gd b d == 0) = false := by rw [beq_eq_false_iff_ne]; omega
    cases hf : (((fitB (addX a b c d) && fitB (addY a b c d)) && fitB (addX a b c d + addY a b c d)) && fitB (addM a b c d))
    · have hok : addOk a b c d = false := by unfold addOk; rw [hf, Bool.and_false]
      unfold addB addN addD
      rw [hok]
      have hE : ((((false || !fitB (addX a b c d)) || !fitB (addY a b c d)) || !fitB (fitN (addX a b c d) + fitN (addY a b c d))) || !fitB (addM a b c d)) = true := by
        cases hx : fitB (addX a b c d)
        · simp
        · cases hy : fitB (addY a b c d)
          · simp
          · rw [fitN_yes hx, fitN_yes hy]
            rw [hx, hy] at hf
            simp at hf ⊢
            cases hz : fitB (addX a b c d + addY a b c d)
            · exact .inl rfl
            · exact .inr (hf hz)
      exact radd_broken a b c d (gd b d) (b / gd b d) (d / gd b d) (fitN (addX a b c d)) (fitN (addY a b c d)) (fitN (fitN (addX a b c d) + fitN (addY a b c d))) (fitN (addM a b c d)) _ _ _ _ _ _ _ _ _ _ w (Lib.hid HB) hgz (by omega) (wrap_id ip) (wrap_id iq) (tdiv_gd_left b d) (tdiv_gd_right b d) ip.1 ip.2 iq.1 iq.2
        (Lib.hid rfl) (Lib.hid rfl) (Lib.hid rfl) (Lib.hid rfl) (Lib.hid hE) (Lib.hid fun w => gcd_fit b d0 ib id w) (Lib.hid fun w => Mul_any a _ w ia iq) (Lib.hid fun w => Mul_any c _ w ic ip) (Lib.hid fun w => Add_any _ _ w (fitN_in _) (fitN_in _)) (Lib.hid fun w => Mul_any b _ w ib iq) (Lib.hid fun w => rmake_any _ _ w (fitN_in _) (fitN_in _))
    · have hok : addOk a b c d = true := by unfold addOk; rw [hf, hg.1, hg.2]; rfl
      unfold addB addN addD
      rw [hok, if_pos rfl, if_pos rfl, Bool.true_and]
      simp only [Bool.and_eq_true] at hf
      obtain ⟨⟨⟨h1, h2⟩, h3⟩, h4⟩ := hf
      exact radd_whole a b c d (gd b d) (b / gd b d) (d / gd b d) (addX a b c d) (addY a b c d) (addX a b c d + addY a b c d) (addM a b c d) _ _ true true true true _ false false false w (Lib.hid HB) hgz (by omega) (wrap_id ip) (wrap_id iq) (tdiv_gd_left b d) (tdiv_gd_right b d) ip.1 ip.2 iq.1 iq.2
        (Lib.hid rfl) (Lib.hid rfl) (Lib.hid rfl) (Lib.hid rfl) (Lib.hid rfl) (Lib.hid fun w => gcd_fit b d0 ib id w) (Lib.hid fun w => mul_fit h1 ia iq w) (Lib.hid fun w => mul_fit h2 ic ip w) (Lib.hid fun w => add_fit h3 (fitB_iff.1 h1) (fitB_iff.1 h2) w) (Lib.hid fun w => mul_fit h4 ib iq w) (Lib.hid fun w => rmake_any _ _ w (fitB_iff.1 h3) (fitB_iff.1 h4))

theorem rmul_any (a b c d : Int) (w : World) (ia : InI a) (ib : InI b) (ic : InI c) (id : InI d) :
    Calls Tryd.prog 29 #[.agg #[.int .i64 a, .int .i64 b], .agg #[.int .i64 c, .int .i64 d]] w fun e w' => e = .returned (.tuple #[.agg #[.int .i64 (mulN a b c d), .int .i64 (mulD a b c d)], .bool (mulB a b c d)]) ∧ Below w.heap.size w w' := by
  have HB := fun w => both_any a b c d w ia ib ic id
  cases hg : (goodB a b && goodB c d)
  · rw [hg] at HB
    have hok : mulOk a b c d = false := by unfold mulOk; rw [hg]; rfl
    unfold mulB mulN mulD
    rw [hok]
    exact rmul_no a b c d w (Lib.hid HB)
  · rw [hg] at HB
    simp only [Bool.and_eq_true] at hg
    have b0 := good_pos hg.1
    have d0 := good_pos hg.2
    obtain ⟨ig, g0⟩ := gd_in a d0 id
    obtain ⟨ih, h0⟩ := gd_in c b0 ib
    have ip := ediv_in ia g0 (gd_dvd_left a d)
    have iq := ediv_in ic h0 (gd_dvd_left c b)
    have ir := ediv_in ib h0 (gd_dvd_right c b)
    have is := ediv_in id g0 (gd_dvd_right a d)
    have hgz : (gd a d == 0) = false := by rw [beq_eq_false_iff_ne]; omega
    have hhz : (gd c b == 0) = false := by rw [beq_eq_false_iff_ne]; omega
    cases hf : (fitB (mulX a b c d) && fitB (mulM a b c d))
    · have hok : mulOk a b c d = false := by unfold mulOk; rw [hf, Bool.and_false]
      unfold mulB mulN mulD
      rw [hok]
      have hE : ((false || !fitB (mulX a b c d)) || !fitB (mulM a b c d)) = true := by
        cases hx : fitB (mulX a b c d)
        · simp
        · rw [hx] at hf; simp at hf; rw [hf]; rfl
      exact rmul_broken a b c d (gd a d) (gd c b) (a / gd a d) (c / gd c b) (b / gd c b) (d / gd a d) (fitN (mulX a b c d)) (fitN (mulM a b c d)) _ _ true true _ _ _ _ w (Lib.hid HB) hgz hhz (by omega) (by omega) (wrap_id ip) (wrap_id iq) (wrap_id ir) (wrap_id is) (tdiv_gd_left a d) (tdiv_gd_left c b) (tdiv_gd_right c b) (tdiv_gd_right a d) ip.1 ip.2 iq.1 iq.2 ir.1 ir.2 is.1 is.2
        (Lib.hid rfl) (Lib.hid rfl) (Lib.hid rfl) (Lib.hid hE) (Lib.hid fun w => gcd_fit a d0 ia id w) (Lib.hid fun w => gcd_fit c b0 ic ib w) (Lib.hid fun w => Mul_any _ _ w ip iq) (Lib.hid fun w => Mul_any _ _ w ir is) (Lib.hid fun w => rmake_any _ _ w (fitN_in _) (fitN_in _))
    · have hok : mulOk a b c d = true := by unfold mulOk; rw [hf, hg.1, hg.2]; rfl
      unfold mulB mulN mulD
      rw [hok, if_pos rfl, if_pos rfl, Bool.true_and]
      simp only [Bool.and_eq_true] at hf
      obtain ⟨h1, h2⟩ := hf
      exact rmul_whole a b c d (gd a d) (gd c b) (a / gd a d) (c / gd c b) (b / gd c b) (d / gd a d) (mulX a b c d) (mulM a b c d) _ _ true true true true _ false w (Lib.hid HB) hgz hhz (by omega) (by omega) (wrap_id ip) (wrap_id iq) (wrap_id ir) (wrap_id is) (tdiv_gd_left a d) (tdiv_gd_left c b) (tdiv_gd_right c b) (tdiv_gd_right a d) ip.1 ip.2 iq.1 iq.2 ir.1 ir.2 is.1 is.2
        (Lib.hid rfl) (Lib.hid rfl) (Lib.hid rfl) (Lib.hid rfl) (Lib.hid fun w => gcd_fit a d0 ia id w) (Lib.hid fun w => gcd_fit c b0 ic ib w) (Lib.hid fun w => mul_fit h1 ip iq w) (Lib.hid fun w => mul_fit h2 ir is w) (Lib.hid fun w => rmake_any _ _ w (fitB_iff.1 h1) (fitB_iff.1 h2))
end Go.Proofs.YtkdklmkcanjjfaaDoor
