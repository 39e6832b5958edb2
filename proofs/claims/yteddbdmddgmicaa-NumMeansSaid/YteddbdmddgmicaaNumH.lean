/- The walks of num and math/bits, part H: Div64. -/
import Derived.Test.YteddbdmddgmicaaNumG
import Derived.Test.YteddbdmddgmicaaDivMath
namespace Go.Proofs.Yteddbdmddgmicaa
open Go.RowKit
set_option linter.unusedVariables false
set_option linter.unusedSimpArgs false

theorem div64_low (l y : Nat) (hl : l < 18446744073709551616) (hy : 0 < y) (hy2 : y < 18446744073709551616) (w : World) :
    Calls Try.prog 43 #[.int .u64 0, .int .u64 (l : Int), .int .u64 (y : Int)] w fun e w' => e = .returned (.tuple #[.int .u64 ((l / y : Nat) : Int), .int .u64 ((l % y : Nat) : Int)]) ∧ Below w.heap.size w w' := by
  have h1 : (0 : Int) < (y : Int) := by omega
  have h2 : (y : Int) ≠ 0 := by omega
  go_enter Try.func43, Try.ntmps43
  go_wp2_with fail
  go_quiet (skip)
  go_wp2_with fail
  have e1 : IntKind.u64.wrap ((l : Int) / (y : Int)) = ((l / y : Nat) : Int) := mul_wrapN (l / y) (Nat.lt_of_le_of_lt (Nat.div_le_self _ _) hl)
  have e2 : (l : Int) % (y : Int) = ((l % y : Nat) : Int) := rfl
  rw [e1, e2]
  go_ret2
  exact ⟨rfl, bl_drewN (Below.refl _ _) _⟩

theorem quo_eq (a g RQ : Int) (nu n1 n0 nu1 nu0 : Nat) (k1 : DivAt nu n1 n0 nu1) (k3 : DivAt ((nu * 4294967296 + nu1) % (n1 * 4294967296 + n0)) n1 n0 nu0) (ha0 : 0 ≤ a) (hg0 : 0 ≤ g)
    (ha : a.toNat = (nu * 4294967296 + nu1) / (n1 * 4294967296 + n0)) (hg : g.toNat = ((nu * 4294967296 + nu1) % (n1 * 4294967296 + n0) * 4294967296 + nu0) / (n1 * 4294967296 + n0))
    (hR : RQ = (((nu * 4294967296 + nu1) / (n1 * 4294967296 + n0) * 4294967296 + ((nu * 4294967296 + nu1) % (n1 * 4294967296 + n0) * 4294967296 + nu0) / (n1 * 4294967296 + n0) : Nat) : Int)) :
    a * 4294967296 + g = RQ ∧ IntKind.u64.wrap (a * 4294967296 + g) = RQ ∧ IntKind.u64.wrap (IntKind.u64.wrap (a * 4294967296) + g) = RQ := by
  obtain ⟨a1, a2, a3, a4, a5⟩ := k1
  obtain ⟨b1, b2, b3, b4, b5⟩ := k3
  have hA : (nu * 4294967296 + nu1) / (n1 * 4294967296 + n0) < 4294967296 := by
    rw [Nat.div_lt_iff_lt_mul (by omega)]; omega
  have hG : ((nu * 4294967296 + nu1) % (n1 * 4294967296 + n0) * 4294967296 + nu0) / (n1 * 4294967296 + n0) < 4294967296 := by
    rw [Nat.div_lt_iff_lt_mul (by omega)]; omega
  rw [← ha] at hA hR
  rw [← hg] at hG hR
  simp only [IntKind.wrap_u64]
  clear ha hg b5 a5
  refine ⟨?_, ?_, ?_⟩ <;> omega
theorem rest_eq (u u1 q Y U : Int) (d : Nat) (hu : 0 ≤ u) (hu1 : 0 ≤ u1) (hY : Y = (d : Int)) (hd : 0 < d) (hdb : d < 18446744073709551616) (hq : q = (((u.toNat * 4294967296 + u1.toNat) / d : Nat) : Int)) (hU : U = (((u.toNat * 4294967296 + u1.toNat) % d : Nat) : Int)) :
    IntKind.u64.wrap (IntKind.u64.wrap (IntKind.u64.wrap (u * 4294967296) + u1) - IntKind.u64.wrap (q * Y)) = U ∧ 0 ≤ U ∧ U < Y := by
  have h := Nat.div_add_mod (u.toNat * 4294967296 + u1.toNat) d
  have hlt := Nat.mod_lt (u.toNat * 4294967296 + u1.toNat) hd
  have e : q * Y = ((d * ((u.toNat * 4294967296 + u1.toNat) / d) : Nat) : Int) := by rw [hq, hY, mul_mulN, Nat.mul_comm]
  rw [e, IntKind.wrap_u64, IntKind.wrap_u64, IntKind.wrap_u64, IntKind.wrap_u64]
  subst hU
  subst hY
  clear hq e
  have hx : ((u.toNat * 4294967296 + u1.toNat : Nat) : Int) = u * 4294967296 + u1 := by omega
  generalize u.toNat * 4294967296 + u1.toNat = X at *
  generalize d * (X / d) = z at *
  generalize X % d = y at *
  omega
set_option maxHeartbeats 4000000 in
set_option maxRecDepth 100000 in
theorem div64_core (h l y Y n1 n0 hs u v u1 u0 RQ RR : Int) (s : Nat) (hh : 0 < h) (hhy : h < y) (hl0 : 0 ≤ l) (hl : l < 18446744073709551616) (hy2 : y < 18446744073709551616) (hs63 : s ≤ 63)
    (e1 : IntKind.u64.wrap (y * 2 ^ s) = Y) (e2 : Y / 4294967296 = n1) (e3 : bits .and .u64 Y 4294967295 = n0)
    (e4 : IntKind.u64.wrap (h * 2 ^ s) = hs) (e5 : bits .or .u64 hs (l / 2 ^ (64 - s)) = u)
    (e6 : IntKind.u64.wrap (l * 2 ^ s) = v) (e7 : v / 4294967296 = u1) (e8 : bits .and .u64 v 4294967295 = u0)
    (p1 : 0 < n1) (p2 : 0 ≤ n0) (p3 : 0 ≤ u) (p4 : 0 ≤ u1) (p5 : 0 ≤ u0) (p6 : 0 ≤ Y) (m1 : n1 < 4294967296) (m3 : u < 18446744073709551616) (m4 : u1 < 4294967296) (m5 : u0 < 4294967296) (m6 : Y < 18446744073709551616)
    (hY : n1 * 4294967296 + n0 = Y) (k1 : DivAt u.toNat n1.toNat n0.toNat u1.toNat) (k2 : DivAt ((u.toNat * 4294967296 + u1.toNat) % (n1.toNat * 4294967296 + n0.toNat)) n1.toNat n0.toNat u0.toNat) (w : World)
    (hQ : RQ = (((u.toNat * 4294967296 + u1.toNat) / (n1.toNat * 4294967296 + n0.toNat) * 4294967296 + ((u.toNat * 4294967296 + u1.toNat) % (n1.toNat * 4294967296 + n0.toNat) * 4294967296 + u0.toNat) / (n1.toNat * 4294967296 + n0.toNat) : Nat) : Int))
    (hR : RR = ((((u.toNat * 4294967296 + u1.toNat) % (n1.toNat * 4294967296 + n0.toNat) * 4294967296 + u0.toNat) % (n1.toNat * 4294967296 + n0.toNat) / 2 ^ s : Nat) : Int))
    (HZ : Hid (∀ w, Calls Try.prog 49 #[.int .u64 y] w fun e w' => e = .returned (.int .i64 (s : Int)) ∧ w = w')) :
    Calls Try.prog 43 #[.int .u64 h, .int .u64 l, .int .u64 y] w fun e w' => e = .returned (.tuple #[.int .u64 RQ, .int .u64 RR]) ∧ Below w.heap.size w w' := by
  have h2 : y ≠ 0 := by omega
  have hn2 : n1 ≠ 0 := by omega
  have HY := Lib.hid hY
  have K1 := Lib.hid k1
  have K2 := Lib.hid k2
  have HQ := Lib.hid hQ
  have HR := Lib.hid hR
  clear hY k1 k2 hQ hR
  go_enter Try.func43, Try.ntmps43
  go_wp2_with fail
  refine (HZ.out _).mono ?_; rintro e w1 ⟨rfl, rfl⟩
  go_wp2_with fail
  have q1e : u / n1 = ((u.toNat / n1.toNat : Nat) : Int) := by
    conv => lhs; rw [← Int.toNat_of_nonneg p3, ← Int.toNat_of_nonneg (Int.le_of_lt p1)]
    rfl
  have q2e : IntKind.u64.wrap (u - IntKind.u64.wrap (((u.toNat / n1.toNat : Nat) : Int) * n1)) = ((u.toNat % n1.toNat : Nat) : Int) := by
    have hdm := Nat.div_add_mod u.toNat n1.toNat
    have hle : n1.toNat * (u.toNat / n1.toNat) ≤ u.toNat := by omega
    have e : ((u.toNat / n1.toNat : Nat) : Int) * n1 = ((n1.toNat * (u.toNat / n1.toNat) : Nat) : Int) := by
      conv => lhs; rw [← Int.toNat_of_nonneg (Int.le_of_lt p1)]
      rw [mul_mulN, Nat.mul_comm, Int.toNat_natCast]
    rw [e, mul_wrapN _ (by omega), show u - ((n1.toNat * (u.toNat / n1.toNat) : Nat) : Int) = ((u.toNat % n1.toNat : Nat) : Int) by omega]
    exact mul_wrapN _ (by have := Nat.mod_le u.toNat n1.toNat; omega)
  rw [q1e, q2e]
  have D0 := Lib.hid (DivIn.start K1.out)
  generalize u.toNat / n1.toNat = qa at D0
  generalize u.toNat % n1.toNat = ra at D0
  clear q1e q2e
  go_loop [15, 16] (fun vq vr => ∃ q r : Int, vq = .int .u64 q ∧ vr = .int .u64 r ∧ 0 ≤ q ∧ 0 ≤ r ∧ DivIn u.toNat n1.toNat n0.toNat u1.toNat q.toNat r.toNat) (fun vq _ => (intOf vq).toNat)
  case atStart => exact ⟨_, _, rfl, rfl, by omega, by omega, by simpa using D0.out⟩
  case round =>
    obtain ⟨q, r, rfl, rfl, hq0, hr0, hD⟩ := hrel
    have hp := hD.prod K1.out
    have hr : r < 4294967296 := by have := hD.rlt; omega
    have hq : q ≤ 4294967297 := by have := hD.qle; omega
    obtain ⟨P, hP⟩ : ∃ P : Int, P = ((q.toNat * n0.toNat : Nat) : Int) := ⟨_, rfl⟩
    have f1 : IntKind.u64.wrap (q * n0) = P := by
      rw [hP]
      conv => lhs; rw [← Int.toNat_of_nonneg hq0, ← Int.toNat_of_nonneg p2]
      rw [mul_mulN]; exact mul_wrapN _ hp
    have hp0 : 0 ≤ P := by omega
    have hp2 : P < 18446744073709551616 := by omega
    clear hp
    have HD := Lib.hid hD
    have HP := Lib.hid hP
    clear hP hD
    by_cases hb : 4294967296 ≤ q
    · by_cases hc : r + n1 < 4294967296
      · have hs1 := HD.out.step K1.out (.inl (by omega)) (by omega)
        have hq1 := HD.out.down K1.out (.inl (by omega))
        replace hq1 := hq1.1
        have hqp : 1 ≤ q := by omega
        rw [show q.toNat - 1 = (q - 1).toNat by omega, show r.toNat + n1.toNat = (r + n1).toNat by omega] at hs1
        have HS1 := Lib.hid hs1
        clear hs1 hq1
        go_wp2_with fail
        exact ⟨⟨q - 1, r + n1, rfl, rfl, by omega, by omega, HS1.out⟩, by simp only [intOf]; omega⟩
      · have hov := HD.out.over K1.out (.inl (by omega)) (by omega)
        have hq1 := HD.out.down K1.out (.inl (by omega))
        replace hq1 := hq1.1
        have hqp : 1 ≤ q := by omega
        clear hq1
        rw [show q.toNat - 1 = (q - 1).toNat by omega] at hov
        obtain ⟨U, hU⟩ : ∃ U : Int, U = (((u.toNat * 4294967296 + u1.toNat) % (n1.toNat * 4294967296 + n0.toNat) : Nat) : Int) := ⟨_, rfl⟩
        obtain ⟨eU, U0, UY⟩ := rest_eq u u1 (q - 1) Y U (n1.toNat * 4294967296 + n0.toNat) p3 p4 (by have := HY.out; omega) (by omega) (by have := HY.out; omega) (by omega) hU
        have K3 : Hid (DivAt U.toNat n1.toNat n0.toNat u0.toNat) := by
          have h := K2.out
          rw [show (u.toNat * 4294967296 + u1.toNat) % (n1.toNat * 4294967296 + n0.toNat) = U.toNat by omega] at h
          exact h
        have HOV := Lib.hid hov
        have HU := Lib.hid hU
        clear hov hU
        go_wp2_with fail
        clear f1
        have q1e : U / n1 = ((U.toNat / n1.toNat : Nat) : Int) := by
          conv => lhs; rw [← Int.toNat_of_nonneg U0, ← Int.toNat_of_nonneg (Int.le_of_lt p1)]
          rfl
        have q2e : IntKind.u64.wrap (U - IntKind.u64.wrap (((U.toNat / n1.toNat : Nat) : Int) * n1)) = ((U.toNat % n1.toNat : Nat) : Int) := by
          have hdm := Nat.div_add_mod U.toNat n1.toNat
          have hle : n1.toNat * (U.toNat / n1.toNat) ≤ U.toNat := by omega
          have e : ((U.toNat / n1.toNat : Nat) : Int) * n1 = ((n1.toNat * (U.toNat / n1.toNat) : Nat) : Int) := by
            conv => lhs; rw [← Int.toNat_of_nonneg (Int.le_of_lt p1)]
            rw [mul_mulN, Nat.mul_comm, Int.toNat_natCast]
          rw [e, mul_wrapN _ (by omega), show U - ((n1.toNat * (U.toNat / n1.toNat) : Nat) : Int) = ((U.toNat % n1.toNat : Nat) : Int) by omega]
          exact mul_wrapN _ (by have := Nat.mod_le U.toNat n1.toNat; omega)
        rw [q1e, q2e]
        have D0 := Lib.hid (DivIn.start K3.out)
        generalize U.toNat / n1.toNat = qb at D0
        generalize U.toNat % n1.toNat = rb at D0
        clear q1e q2e
        go_loop [16, 18] (fun vr vq => ∃ g t : Int, vq = .int .u64 g ∧ vr = .int .u64 t ∧ 0 ≤ g ∧ 0 ≤ t ∧ DivIn U.toNat n1.toNat n0.toNat u0.toNat g.toNat t.toNat) (fun _ vq => (intOf vq).toNat)
        case atStart => exact ⟨_, _, rfl, rfl, by omega, by omega, by simpa using D0.out⟩
        case round =>
          obtain ⟨g, t, rfl, rfl, hg0, ht0, hD⟩ := hrel
          have hp := hD.prod K3.out
          have ht : t < 4294967296 := by have := hD.rlt; omega
          have hgl : g ≤ 4294967297 := by have := hD.qle; omega
          obtain ⟨P, hP⟩ : ∃ P : Int, P = ((g.toNat * n0.toNat : Nat) : Int) := ⟨_, rfl⟩
          have f1 : IntKind.u64.wrap (g * n0) = P := by
            rw [hP]
            conv => lhs; rw [← Int.toNat_of_nonneg hg0, ← Int.toNat_of_nonneg p2]
            rw [mul_mulN]; exact mul_wrapN _ hp
          have hp0 : 0 ≤ P := by omega
          have hp2 : P < 18446744073709551616 := by omega
          clear hp
          have HD := Lib.hid hD
          have HP := Lib.hid hP
          clear hP hD
          by_cases hb : 4294967296 ≤ g
          · by_cases hc : t + n1 < 4294967296
            · have hs1 := HD.out.step K3.out (.inl (by omega)) (by omega)
              have hq1 := HD.out.down K3.out (.inl (by omega))
              replace hq1 := hq1.1
              have hqp : 1 ≤ g := by omega
              rw [show g.toNat - 1 = (g - 1).toNat by omega, show t.toNat + n1.toNat = (t + n1).toNat by omega] at hs1
              have HS1 := Lib.hid hs1
              clear hs1 hq1
              go_wp2_with fail
              exact ⟨⟨g - 1, t + n1, rfl, rfl, by omega, by omega, HS1.out⟩, by simp only [intOf]; omega⟩
            · have hov := HD.out.over K3.out (.inl (by omega)) (by omega)
              have hq1 := HD.out.down K3.out (.inl (by omega))
              replace hq1 := hq1.1
              have hqp : 1 ≤ g := by omega
              clear hq1
              rw [show g.toNat - 1 = (g - 1).toNat by omega] at hov
              obtain ⟨V, hV⟩ : ∃ V : Int, V = (((U.toNat * 4294967296 + u0.toNat) % (n1.toNat * 4294967296 + n0.toNat) : Nat) : Int) := ⟨_, rfl⟩
              obtain ⟨eV, V0, VY⟩ := rest_eq U u0 (g - 1) Y V (n1.toNat * 4294967296 + n0.toNat) U0 p5 (by have := HY.out; omega) (by omega) (by have := HY.out; omega) (by omega) hV
              have hUN : U.toNat = (u.toNat * 4294967296 + u1.toNat) % (n1.toNat * 4294967296 + n0.toNat) := by have := HU.out; omega
              have eR : V / 2 ^ s = RR := by
                rw [HR.out, hV, hUN, show ((2 : Int) ^ s) = ((2 ^ s : Nat) : Int) from (Int.natCast_pow 2 s).symm]
                rfl
              have eQ : (q - 1) * 4294967296 + (g - 1) = RQ ∧ IntKind.u64.wrap ((q - 1) * 4294967296 + (g - 1)) = RQ ∧ IntKind.u64.wrap (IntKind.u64.wrap ((q - 1) * 4294967296) + (g - 1)) = RQ := by
                have hk := K3.out
                rw [hUN] at hk hov
                exact quo_eq (q - 1) (g - 1) RQ _ _ _ _ _ K1.out hk (by omega) (by omega) HOV.out hov HQ.out
              have EQ := Lib.hid eQ
              clear hV hov hUN eQ
              go_wp2_with fail
              go_ret2
              refine ⟨?_, Below.refl _ _⟩
              first
              | exact congrArg (fun z => Ending.returned (.tuple #[.int .u64 z, .int .u64 RR])) EQ.out.1
              | exact congrArg (fun z => Ending.returned (.tuple #[.int .u64 z, .int .u64 RR])) EQ.out.2.1
              | exact congrArg (fun z => Ending.returned (.tuple #[.int .u64 z, .int .u64 RR])) EQ.out.2.2
          · by_cases hg : 4294967296 * t + u0 < P
            · by_cases hc : t + n1 < 4294967296
              · have hs1 := HD.out.step K3.out (.inr (by have := HP.out; omega)) (by omega)
                have hq1 := HD.out.down K3.out (.inr (by have := HP.out; omega))
                replace hq1 := hq1.1
                have hqp : 1 ≤ g := by omega
                rw [show g.toNat - 1 = (g - 1).toNat by omega, show t.toNat + n1.toNat = (t + n1).toNat by omega] at hs1
                have HS1 := Lib.hid hs1
                clear hs1 hq1
                go_wp2_with fail
                exact ⟨⟨g - 1, t + n1, rfl, rfl, by omega, by omega, HS1.out⟩, by simp only [intOf]; omega⟩
              · have hov := HD.out.over K3.out (.inr (by have := HP.out; omega)) (by omega)
                have hq1 := HD.out.down K3.out (.inr (by have := HP.out; omega))
                replace hq1 := hq1.1
                have hqp : 1 ≤ g := by omega
                clear hq1
                rw [show g.toNat - 1 = (g - 1).toNat by omega] at hov
                obtain ⟨V, hV⟩ : ∃ V : Int, V = (((U.toNat * 4294967296 + u0.toNat) % (n1.toNat * 4294967296 + n0.toNat) : Nat) : Int) := ⟨_, rfl⟩
                obtain ⟨eV, V0, VY⟩ := rest_eq U u0 (g - 1) Y V (n1.toNat * 4294967296 + n0.toNat) U0 p5 (by have := HY.out; omega) (by omega) (by have := HY.out; omega) (by omega) hV
                have hUN : U.toNat = (u.toNat * 4294967296 + u1.toNat) % (n1.toNat * 4294967296 + n0.toNat) := by have := HU.out; omega
                have eR : V / 2 ^ s = RR := by
                  rw [HR.out, hV, hUN, show ((2 : Int) ^ s) = ((2 ^ s : Nat) : Int) from (Int.natCast_pow 2 s).symm]
                  rfl
                have eQ : (q - 1) * 4294967296 + (g - 1) = RQ ∧ IntKind.u64.wrap ((q - 1) * 4294967296 + (g - 1)) = RQ ∧ IntKind.u64.wrap (IntKind.u64.wrap ((q - 1) * 4294967296) + (g - 1)) = RQ := by
                  have hk := K3.out
                  rw [hUN] at hk hov
                  exact quo_eq (q - 1) (g - 1) RQ _ _ _ _ _ K1.out hk (by omega) (by omega) HOV.out hov HQ.out
                have EQ := Lib.hid eQ
                clear hV hov hUN eQ
                go_wp2_with fail
                go_ret2
                refine ⟨?_, Below.refl _ _⟩
                first
                | exact congrArg (fun z => Ending.returned (.tuple #[.int .u64 z, .int .u64 RR])) EQ.out.1
                | exact congrArg (fun z => Ending.returned (.tuple #[.int .u64 z, .int .u64 RR])) EQ.out.2.1
                | exact congrArg (fun z => Ending.returned (.tuple #[.int .u64 z, .int .u64 RR])) EQ.out.2.2
            · have hov := HD.out.done K3.out (by have := HP.out; omega)
              obtain ⟨V, hV⟩ : ∃ V : Int, V = (((U.toNat * 4294967296 + u0.toNat) % (n1.toNat * 4294967296 + n0.toNat) : Nat) : Int) := ⟨_, rfl⟩
              obtain ⟨eV, V0, VY⟩ := rest_eq U u0 g Y V (n1.toNat * 4294967296 + n0.toNat) U0 p5 (by have := HY.out; omega) (by omega) (by have := HY.out; omega) (by omega) hV
              have hUN : U.toNat = (u.toNat * 4294967296 + u1.toNat) % (n1.toNat * 4294967296 + n0.toNat) := by have := HU.out; omega
              have eR : V / 2 ^ s = RR := by
                rw [HR.out, hV, hUN, show ((2 : Int) ^ s) = ((2 ^ s : Nat) : Int) from (Int.natCast_pow 2 s).symm]
                rfl
              have eQ : (q - 1) * 4294967296 + g = RQ ∧ IntKind.u64.wrap ((q - 1) * 4294967296 + g) = RQ ∧ IntKind.u64.wrap (IntKind.u64.wrap ((q - 1) * 4294967296) + g) = RQ := by
                have hk := K3.out
                rw [hUN] at hk hov
                exact quo_eq (q - 1) g RQ _ _ _ _ _ K1.out hk (by omega) (by omega) HOV.out hov HQ.out
              have EQ := Lib.hid eQ
              clear hV hov hUN eQ
              go_wp2_with fail
              go_ret2
              refine ⟨?_, Below.refl _ _⟩
              first
              | exact congrArg (fun z => Ending.returned (.tuple #[.int .u64 z, .int .u64 RR])) EQ.out.1
              | exact congrArg (fun z => Ending.returned (.tuple #[.int .u64 z, .int .u64 RR])) EQ.out.2.1
              | exact congrArg (fun z => Ending.returned (.tuple #[.int .u64 z, .int .u64 RR])) EQ.out.2.2
    · by_cases hg : 4294967296 * r + u1 < P
      · by_cases hc : r + n1 < 4294967296
        · have hs1 := HD.out.step K1.out (.inr (by have := HP.out; omega)) (by omega)
          have hq1 := HD.out.down K1.out (.inr (by have := HP.out; omega))
          replace hq1 := hq1.1
          have hqp : 1 ≤ q := by omega
          rw [show q.toNat - 1 = (q - 1).toNat by omega, show r.toNat + n1.toNat = (r + n1).toNat by omega] at hs1
          have HS1 := Lib.hid hs1
          clear hs1 hq1
          go_wp2_with fail
          exact ⟨⟨q - 1, r + n1, rfl, rfl, by omega, by omega, HS1.out⟩, by simp only [intOf]; omega⟩
        · have hov := HD.out.over K1.out (.inr (by have := HP.out; omega)) (by omega)
          have hq1 := HD.out.down K1.out (.inr (by have := HP.out; omega))
          replace hq1 := hq1.1
          have hqp : 1 ≤ q := by omega
          clear hq1
          rw [show q.toNat - 1 = (q - 1).toNat by omega] at hov
          obtain ⟨U, hU⟩ : ∃ U : Int, U = (((u.toNat * 4294967296 + u1.toNat) % (n1.toNat * 4294967296 + n0.toNat) : Nat) : Int) := ⟨_, rfl⟩
          obtain ⟨eU, U0, UY⟩ := rest_eq u u1 (q - 1) Y U (n1.toNat * 4294967296 + n0.toNat) p3 p4 (by have := HY.out; omega) (by omega) (by have := HY.out; omega) (by omega) hU
          have K3 : Hid (DivAt U.toNat n1.toNat n0.toNat u0.toNat) := by
            have h := K2.out
            rw [show (u.toNat * 4294967296 + u1.toNat) % (n1.toNat * 4294967296 + n0.toNat) = U.toNat by omega] at h
            exact h
          have HOV := Lib.hid hov
          have HU := Lib.hid hU
          clear hov hU
          go_wp2_with fail
          clear f1
          have q1e : U / n1 = ((U.toNat / n1.toNat : Nat) : Int) := by
            conv => lhs; rw [← Int.toNat_of_nonneg U0, ← Int.toNat_of_nonneg (Int.le_of_lt p1)]
            rfl
          have q2e : IntKind.u64.wrap (U - IntKind.u64.wrap (((U.toNat / n1.toNat : Nat) : Int) * n1)) = ((U.toNat % n1.toNat : Nat) : Int) := by
            have hdm := Nat.div_add_mod U.toNat n1.toNat
            have hle : n1.toNat * (U.toNat / n1.toNat) ≤ U.toNat := by omega
            have e : ((U.toNat / n1.toNat : Nat) : Int) * n1 = ((n1.toNat * (U.toNat / n1.toNat) : Nat) : Int) := by
              conv => lhs; rw [← Int.toNat_of_nonneg (Int.le_of_lt p1)]
              rw [mul_mulN, Nat.mul_comm, Int.toNat_natCast]
            rw [e, mul_wrapN _ (by omega), show U - ((n1.toNat * (U.toNat / n1.toNat) : Nat) : Int) = ((U.toNat % n1.toNat : Nat) : Int) by omega]
            exact mul_wrapN _ (by have := Nat.mod_le U.toNat n1.toNat; omega)
          rw [q1e, q2e]
          have D0 := Lib.hid (DivIn.start K3.out)
          generalize U.toNat / n1.toNat = qb at D0
          generalize U.toNat % n1.toNat = rb at D0
          clear q1e q2e
          go_loop [16, 18] (fun vr vq => ∃ g t : Int, vq = .int .u64 g ∧ vr = .int .u64 t ∧ 0 ≤ g ∧ 0 ≤ t ∧ DivIn U.toNat n1.toNat n0.toNat u0.toNat g.toNat t.toNat) (fun _ vq => (intOf vq).toNat)
          case atStart => exact ⟨_, _, rfl, rfl, by omega, by omega, by simpa using D0.out⟩
          case round =>
            obtain ⟨g, t, rfl, rfl, hg0, ht0, hD⟩ := hrel
            have hp := hD.prod K3.out
            have ht : t < 4294967296 := by have := hD.rlt; omega
            have hgl : g ≤ 4294967297 := by have := hD.qle; omega
            obtain ⟨P, hP⟩ : ∃ P : Int, P = ((g.toNat * n0.toNat : Nat) : Int) := ⟨_, rfl⟩
            have f1 : IntKind.u64.wrap (g * n0) = P := by
              rw [hP]
              conv => lhs; rw [← Int.toNat_of_nonneg hg0, ← Int.toNat_of_nonneg p2]
              rw [mul_mulN]; exact mul_wrapN _ hp
            have hp0 : 0 ≤ P := by omega
            have hp2 : P < 18446744073709551616 := by omega
            clear hp
            have HD := Lib.hid hD
            have HP := Lib.hid hP
            clear hP hD
            by_cases hb : 4294967296 ≤ g
            · by_cases hc : t + n1 < 4294967296
              · have hs1 := HD.out.step K3.out (.inl (by omega)) (by omega)
                have hq1 := HD.out.down K3.out (.inl (by omega))
                replace hq1 := hq1.1
                have hqp : 1 ≤ g := by omega
                rw [show g.toNat - 1 = (g - 1).toNat by omega, show t.toNat + n1.toNat = (t + n1).toNat by omega] at hs1
                have HS1 := Lib.hid hs1
                clear hs1 hq1
                go_wp2_with fail
                exact ⟨⟨g - 1, t + n1, rfl, rfl, by omega, by omega, HS1.out⟩, by simp only [intOf]; omega⟩
              · have hov := HD.out.over K3.out (.inl (by omega)) (by omega)
                have hq1 := HD.out.down K3.out (.inl (by omega))
                replace hq1 := hq1.1
                have hqp : 1 ≤ g := by omega
                clear hq1
                rw [show g.toNat - 1 = (g - 1).toNat by omega] at hov
                obtain ⟨V, hV⟩ : ∃ V : Int, V = (((U.toNat * 4294967296 + u0.toNat) % (n1.toNat * 4294967296 + n0.toNat) : Nat) : Int) := ⟨_, rfl⟩
                obtain ⟨eV, V0, VY⟩ := rest_eq U u0 (g - 1) Y V (n1.toNat * 4294967296 + n0.toNat) U0 p5 (by have := HY.out; omega) (by omega) (by have := HY.out; omega) (by omega) hV
                have hUN : U.toNat = (u.toNat * 4294967296 + u1.toNat) % (n1.toNat * 4294967296 + n0.toNat) := by have := HU.out; omega
                have eR : V / 2 ^ s = RR := by
                  rw [HR.out, hV, hUN, show ((2 : Int) ^ s) = ((2 ^ s : Nat) : Int) from (Int.natCast_pow 2 s).symm]
                  rfl
                have eQ : (q - 1) * 4294967296 + (g - 1) = RQ ∧ IntKind.u64.wrap ((q - 1) * 4294967296 + (g - 1)) = RQ ∧ IntKind.u64.wrap (IntKind.u64.wrap ((q - 1) * 4294967296) + (g - 1)) = RQ := by
                  have hk := K3.out
                  rw [hUN] at hk hov
                  exact quo_eq (q - 1) (g - 1) RQ _ _ _ _ _ K1.out hk (by omega) (by omega) HOV.out hov HQ.out
                have EQ := Lib.hid eQ
                clear hV hov hUN eQ
                go_wp2_with fail
                go_ret2
                refine ⟨?_, Below.refl _ _⟩
                first
                | exact congrArg (fun z => Ending.returned (.tuple #[.int .u64 z, .int .u64 RR])) EQ.out.1
                | exact congrArg (fun z => Ending.returned (.tuple #[.int .u64 z, .int .u64 RR])) EQ.out.2.1
                | exact congrArg (fun z => Ending.returned (.tuple #[.int .u64 z, .int .u64 RR])) EQ.out.2.2
            · by_cases hg : 4294967296 * t + u0 < P
              · by_cases hc : t + n1 < 4294967296
                · have hs1 := HD.out.step K3.out (.inr (by have := HP.out; omega)) (by omega)
                  have hq1 := HD.out.down K3.out (.inr (by have := HP.out; omega))
                  replace hq1 := hq1.1
                  have hqp : 1 ≤ g := by omega
                  rw [show g.toNat - 1 = (g - 1).toNat by omega, show t.toNat + n1.toNat = (t + n1).toNat by omega] at hs1
                  have HS1 := Lib.hid hs1
                  clear hs1 hq1
                  go_wp2_with fail
                  exact ⟨⟨g - 1, t + n1, rfl, rfl, by omega, by omega, HS1.out⟩, by simp only [intOf]; omega⟩
                · have hov := HD.out.over K3.out (.inr (by have := HP.out; omega)) (by omega)
                  have hq1 := HD.out.down K3.out (.inr (by have := HP.out; omega))
                  replace hq1 := hq1.1
                  have hqp : 1 ≤ g := by omega
                  clear hq1
                  rw [show g.toNat - 1 = (g - 1).toNat by omega] at hov
                  obtain ⟨V, hV⟩ : ∃ V : Int, V = (((U.toNat * 4294967296 + u0.toNat) % (n1.toNat * 4294967296 + n0.toNat) : Nat) : Int) := ⟨_, rfl⟩
                  obtain ⟨eV, V0, VY⟩ := rest_eq U u0 (g - 1) Y V (n1.toNat * 4294967296 + n0.toNat) U0 p5 (by have := HY.out; omega) (by omega) (by have := HY.out; omega) (by omega) hV
                  have hUN : U.toNat = (u.toNat * 4294967296 + u1.toNat) % (n1.toNat * 4294967296 + n0.toNat) := by have := HU.out; omega
                  have eR : V / 2 ^ s = RR := by
                    rw [HR.out, hV, hUN, show ((2 : Int) ^ s) = ((2 ^ s : Nat) : Int) from (Int.natCast_pow 2 s).symm]
                    rfl
                  have eQ : (q - 1) * 4294967296 + (g - 1) = RQ ∧ IntKind.u64.wrap ((q - 1) * 4294967296 + (g - 1)) = RQ ∧ IntKind.u64.wrap (IntKind.u64.wrap ((q - 1) * 4294967296) + (g - 1)) = RQ := by
                    have hk := K3.out
                    rw [hUN] at hk hov
                    exact quo_eq (q - 1) (g - 1) RQ _ _ _ _ _ K1.out hk (by omega) (by omega) HOV.out hov HQ.out
                  have EQ := Lib.hid eQ
                  clear hV hov hUN eQ
                  go_wp2_with fail
                  go_ret2
                  refine ⟨?_, Below.refl _ _⟩
                  first
                  | exact congrArg (fun z => Ending.returned (.tuple #[.int .u64 z, .int .u64 RR])) EQ.out.1
                  | exact congrArg (fun z => Ending.returned (.tuple #[.int .u64 z, .int .u64 RR])) EQ.out.2.1
                  | exact congrArg (fun z => Ending.returned (.tuple #[.int .u64 z, .int .u64 RR])) EQ.out.2.2
              · have hov := HD.out.done K3.out (by have := HP.out; omega)
                obtain ⟨V, hV⟩ : ∃ V : Int, V = (((U.toNat * 4294967296 + u0.toNat) % (n1.toNat * 4294967296 + n0.toNat) : Nat) : Int) := ⟨_, rfl⟩
                obtain ⟨eV, V0, VY⟩ := rest_eq U u0 g Y V (n1.toNat * 4294967296 + n0.toNat) U0 p5 (by have := HY.out; omega) (by omega) (by have := HY.out; omega) (by omega) hV
                have hUN : U.toNat = (u.toNat * 4294967296 + u1.toNat) % (n1.toNat * 4294967296 + n0.toNat) := by have := HU.out; omega
                have eR : V / 2 ^ s = RR := by
                  rw [HR.out, hV, hUN, show ((2 : Int) ^ s) = ((2 ^ s : Nat) : Int) from (Int.natCast_pow 2 s).symm]
                  rfl
                have eQ : (q - 1) * 4294967296 + g = RQ ∧ IntKind.u64.wrap ((q - 1) * 4294967296 + g) = RQ ∧ IntKind.u64.wrap (IntKind.u64.wrap ((q - 1) * 4294967296) + g) = RQ := by
                  have hk := K3.out
                  rw [hUN] at hk hov
                  exact quo_eq (q - 1) g RQ _ _ _ _ _ K1.out hk (by omega) (by omega) HOV.out hov HQ.out
                have EQ := Lib.hid eQ
                clear hV hov hUN eQ
                go_wp2_with fail
                go_ret2
                refine ⟨?_, Below.refl _ _⟩
                first
                | exact congrArg (fun z => Ending.returned (.tuple #[.int .u64 z, .int .u64 RR])) EQ.out.1
                | exact congrArg (fun z => Ending.returned (.tuple #[.int .u64 z, .int .u64 RR])) EQ.out.2.1
                | exact congrArg (fun z => Ending.returned (.tuple #[.int .u64 z, .int .u64 RR])) EQ.out.2.2
      · have hov := HD.out.done K1.out (by have := HP.out; omega)
        obtain ⟨U, hU⟩ : ∃ U : Int, U = (((u.toNat * 4294967296 + u1.toNat) % (n1.toNat * 4294967296 + n0.toNat) : Nat) : Int) := ⟨_, rfl⟩
        obtain ⟨eU, U0, UY⟩ := rest_eq u u1 q Y U (n1.toNat * 4294967296 + n0.toNat) p3 p4 (by have := HY.out; omega) (by omega) (by have := HY.out; omega) (by omega) hU
        have K3 : Hid (DivAt U.toNat n1.toNat n0.toNat u0.toNat) := by
          have h := K2.out
          rw [show (u.toNat * 4294967296 + u1.toNat) % (n1.toNat * 4294967296 + n0.toNat) = U.toNat by omega] at h
          exact h
        have HOV := Lib.hid hov
        have HU := Lib.hid hU
        clear hov hU
        go_wp2_with fail
        clear f1
        have q1e : U / n1 = ((U.toNat / n1.toNat : Nat) : Int) := by
          conv => lhs; rw [← Int.toNat_of_nonneg U0, ← Int.toNat_of_nonneg (Int.le_of_lt p1)]
          rfl
        have q2e : IntKind.u64.wrap (U - IntKind.u64.wrap (((U.toNat / n1.toNat : Nat) : Int) * n1)) = ((U.toNat % n1.toNat : Nat) : Int) := by
          have hdm := Nat.div_add_mod U.toNat n1.toNat
          have hle : n1.toNat * (U.toNat / n1.toNat) ≤ U.toNat := by omega
          have e : ((U.toNat / n1.toNat : Nat) : Int) * n1 = ((n1.toNat * (U.toNat / n1.toNat) : Nat) : Int) := by
            conv => lhs; rw [← Int.toNat_of_nonneg (Int.le_of_lt p1)]
            rw [mul_mulN, Nat.mul_comm, Int.toNat_natCast]
          rw [e, mul_wrapN _ (by omega), show U - ((n1.toNat * (U.toNat / n1.toNat) : Nat) : Int) = ((U.toNat % n1.toNat : Nat) : Int) by omega]
          exact mul_wrapN _ (by have := Nat.mod_le U.toNat n1.toNat; omega)
        rw [q1e, q2e]
        have D0 := Lib.hid (DivIn.start K3.out)
        generalize U.toNat / n1.toNat = qb at D0
        generalize U.toNat % n1.toNat = rb at D0
        clear q1e q2e
        go_loop [16, 18] (fun vr vq => ∃ g t : Int, vq = .int .u64 g ∧ vr = .int .u64 t ∧ 0 ≤ g ∧ 0 ≤ t ∧ DivIn U.toNat n1.toNat n0.toNat u0.toNat g.toNat t.toNat) (fun _ vq => (intOf vq).toNat)
        case atStart => exact ⟨_, _, rfl, rfl, by omega, by omega, by simpa using D0.out⟩
        case round =>
          obtain ⟨g, t, rfl, rfl, hg0, ht0, hD⟩ := hrel
          have hp := hD.prod K3.out
          have ht : t < 4294967296 := by have := hD.rlt; omega
          have hgl : g ≤ 4294967297 := by have := hD.qle; omega
          obtain ⟨P, hP⟩ : ∃ P : Int, P = ((g.toNat * n0.toNat : Nat) : Int) := ⟨_, rfl⟩
          have f1 : IntKind.u64.wrap (g * n0) = P := by
            rw [hP]
            conv => lhs; rw [← Int.toNat_of_nonneg hg0, ← Int.toNat_of_nonneg p2]
            rw [mul_mulN]; exact mul_wrapN _ hp
          have hp0 : 0 ≤ P := by omega
          have hp2 : P < 18446744073709551616 := by omega
          clear hp
          have HD := Lib.hid hD
          have HP := Lib.hid hP
          clear hP hD
          by_cases hb : 4294967296 ≤ g
          · by_cases hc : t + n1 < 4294967296
            · have hs1 := HD.out.step K3.out (.inl (by omega)) (by omega)
              have hq1 := HD.out.down K3.out (.inl (by omega))
              replace hq1 := hq1.1
              have hqp : 1 ≤ g := by omega
              rw [show g.toNat - 1 = (g - 1).toNat by omega, show t.toNat + n1.toNat = (t + n1).toNat by omega] at hs1
              have HS1 := Lib.hid hs1
              clear hs1 hq1
              go_wp2_with fail
              exact ⟨⟨g - 1, t + n1, rfl, rfl, by omega, by omega, HS1.out⟩, by simp only [intOf]; omega⟩
            · have hov := HD.out.over K3.out (.inl (by omega)) (by omega)
              have hq1 := HD.out.down K3.out (.inl (by omega))
              replace hq1 := hq1.1
              have hqp : 1 ≤ g := by omega
              clear hq1
              rw [show g.toNat - 1 = (g - 1).toNat by omega] at hov
              obtain ⟨V, hV⟩ : ∃ V : Int, V = (((U.toNat * 4294967296 + u0.toNat) % (n1.toNat * 4294967296 + n0.toNat) : Nat) : Int) := ⟨_, rfl⟩
              obtain ⟨eV, V0, VY⟩ := rest_eq U u0 (g - 1) Y V (n1.toNat * 4294967296 + n0.toNat) U0 p5 (by have := HY.out; omega) (by omega) (by have := HY.out; omega) (by omega) hV
              have hUN : U.toNat = (u.toNat * 4294967296 + u1.toNat) % (n1.toNat * 4294967296 + n0.toNat) := by have := HU.out; omega
              have eR : V / 2 ^ s = RR := by
                rw [HR.out, hV, hUN, show ((2 : Int) ^ s) = ((2 ^ s : Nat) : Int) from (Int.natCast_pow 2 s).symm]
                rfl
              have eQ : q * 4294967296 + (g - 1) = RQ ∧ IntKind.u64.wrap (q * 4294967296 + (g - 1)) = RQ ∧ IntKind.u64.wrap (IntKind.u64.wrap (q * 4294967296) + (g - 1)) = RQ := by
                have hk := K3.out
                rw [hUN] at hk hov
                exact quo_eq q (g - 1) RQ _ _ _ _ _ K1.out hk (by omega) (by omega) HOV.out hov HQ.out
              have EQ := Lib.hid eQ
              clear hV hov hUN eQ
              go_wp2_with fail
              go_ret2
              refine ⟨?_, Below.refl _ _⟩
              first
              | exact congrArg (fun z => Ending.returned (.tuple #[.int .u64 z, .int .u64 RR])) EQ.out.1
              | exact congrArg (fun z => Ending.returned (.tuple #[.int .u64 z, .int .u64 RR])) EQ.out.2.1
              | exact congrArg (fun z => Ending.returned (.tuple #[.int .u64 z, .int .u64 RR])) EQ.out.2.2
          · by_cases hg : 4294967296 * t + u0 < P
            · by_cases hc : t + n1 < 4294967296
              · have hs1 := HD.out.step K3.out (.inr (by have := HP.out; omega)) (by omega)
                have hq1 := HD.out.down K3.out (.inr (by have := HP.out; omega))
                replace hq1 := hq1.1
                have hqp : 1 ≤ g := by omega
                rw [show g.toNat - 1 = (g - 1).toNat by omega, show t.toNat + n1.toNat = (t + n1).toNat by omega] at hs1
                have HS1 := Lib.hid hs1
                clear hs1 hq1
                go_wp2_with fail
                exact ⟨⟨g - 1, t + n1, rfl, rfl, by omega, by omega, HS1.out⟩, by simp only [intOf]; omega⟩
              · have hov := HD.out.over K3.out (.inr (by have := HP.out; omega)) (by omega)
                have hq1 := HD.out.down K3.out (.inr (by have := HP.out; omega))
                replace hq1 := hq1.1
                have hqp : 1 ≤ g := by omega
                clear hq1
                rw [show g.toNat - 1 = (g - 1).toNat by omega] at hov
                obtain ⟨V, hV⟩ : ∃ V : Int, V = (((U.toNat * 4294967296 + u0.toNat) % (n1.toNat * 4294967296 + n0.toNat) : Nat) : Int) := ⟨_, rfl⟩
                obtain ⟨eV, V0, VY⟩ := rest_eq U u0 (g - 1) Y V (n1.toNat * 4294967296 + n0.toNat) U0 p5 (by have := HY.out; omega) (by omega) (by have := HY.out; omega) (by omega) hV
                have hUN : U.toNat = (u.toNat * 4294967296 + u1.toNat) % (n1.toNat * 4294967296 + n0.toNat) := by have := HU.out; omega
                have eR : V / 2 ^ s = RR := by
                  rw [HR.out, hV, hUN, show ((2 : Int) ^ s) = ((2 ^ s : Nat) : Int) from (Int.natCast_pow 2 s).symm]
                  rfl
                have eQ : q * 4294967296 + (g - 1) = RQ ∧ IntKind.u64.wrap (q * 4294967296 + (g - 1)) = RQ ∧ IntKind.u64.wrap (IntKind.u64.wrap (q * 4294967296) + (g - 1)) = RQ := by
                  have hk := K3.out
                  rw [hUN] at hk hov
                  exact quo_eq q (g - 1) RQ _ _ _ _ _ K1.out hk (by omega) (by omega) HOV.out hov HQ.out
                have EQ := Lib.hid eQ
                clear hV hov hUN eQ
                go_wp2_with fail
                go_ret2
                refine ⟨?_, Below.refl _ _⟩
                first
                | exact congrArg (fun z => Ending.returned (.tuple #[.int .u64 z, .int .u64 RR])) EQ.out.1
                | exact congrArg (fun z => Ending.returned (.tuple #[.int .u64 z, .int .u64 RR])) EQ.out.2.1
                | exact congrArg (fun z => Ending.returned (.tuple #[.int .u64 z, .int .u64 RR])) EQ.out.2.2
            · have hov := HD.out.done K3.out (by have := HP.out; omega)
              obtain ⟨V, hV⟩ : ∃ V : Int, V = (((U.toNat * 4294967296 + u0.toNat) % (n1.toNat * 4294967296 + n0.toNat) : Nat) : Int) := ⟨_, rfl⟩
              obtain ⟨eV, V0, VY⟩ := rest_eq U u0 g Y V (n1.toNat * 4294967296 + n0.toNat) U0 p5 (by have := HY.out; omega) (by omega) (by have := HY.out; omega) (by omega) hV
              have hUN : U.toNat = (u.toNat * 4294967296 + u1.toNat) % (n1.toNat * 4294967296 + n0.toNat) := by have := HU.out; omega
              have eR : V / 2 ^ s = RR := by
                rw [HR.out, hV, hUN, show ((2 : Int) ^ s) = ((2 ^ s : Nat) : Int) from (Int.natCast_pow 2 s).symm]
                rfl
              have eQ : q * 4294967296 + g = RQ ∧ IntKind.u64.wrap (q * 4294967296 + g) = RQ ∧ IntKind.u64.wrap (IntKind.u64.wrap (q * 4294967296) + g) = RQ := by
                have hk := K3.out
                rw [hUN] at hk hov
                exact quo_eq q g RQ _ _ _ _ _ K1.out hk (by omega) (by omega) HOV.out hov HQ.out
              have EQ := Lib.hid eQ
              clear hV hov hUN eQ
              go_wp2_with fail
              go_ret2
              refine ⟨?_, Below.refl _ _⟩
              first
              | exact congrArg (fun z => Ending.returned (.tuple #[.int .u64 z, .int .u64 RR])) EQ.out.1
              | exact congrArg (fun z => Ending.returned (.tuple #[.int .u64 z, .int .u64 RR])) EQ.out.2.1
              | exact congrArg (fun z => Ending.returned (.tuple #[.int .u64 z, .int .u64 RR])) EQ.out.2.2
end Go.Proofs.Yteddbdmddgmicaa
