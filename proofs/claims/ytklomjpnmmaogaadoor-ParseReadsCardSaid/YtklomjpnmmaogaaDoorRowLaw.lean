/- The last step of a law's row (it returns true; each argument reads behind the call as before), by 'Below' alone; arguments opened by their types. -/
import Derived.Below
import Derived.Carry
import Derived.ChangeSame
import Derived.ProofKit
import Derived.OpenShut
import Derived.ReadAgain
import Derived.WideKeyArgs
import Derived.Test.YtklomjpnmmaogaaDoorNumMath
import Derived.Test.YtklomjpnmmaogaaDoorRowAid
namespace Go.Proofs.YtklomjpnmmaogaaDoor
open Go Go.RowKit Go.WideShapes Go.ChangeShapes Go.ChangeAt
set_option linter.unusedVariables false
set_option linter.unusedSimpArgs false
set_option maxRecDepth 100000
section
variable {H : Type} {enc : TypeId × Value → H} {P : Program}
/-- Each of these types can be read and is a row of the table. -/
def rowedAll (P : Program) (ts : List TypeId) : Bool := ts.all fun t => P.readableRec t && decide (t < P.types.size)
theorem back_all (hl : laidOutB P = true) {W W' : World} (hb : Below W.heap.size W W') {sp : Nat → Bool} : ∀ {ts : List TypeId} {vs : List Value} {ds : List (DataW H)} {ps : List MemPlace}, rowedAll P ts = true →
    DataW.TrodAll enc P W 0 (fun _ => true) true ts vs ds ps → (∀ x ∈ ps, x.block < W.heap.size) → (∀ x ∈ ps, sp x.block = true) → DataW.TrodAll enc P W' 0 sp true ts vs ds ps
  | [], vs, ds, ps, _, h, _, _ => by
    obtain ⟨rfl, rfl, rfl⟩ := trodAll_nil h
    exact trodAll_mk0
  | t :: ts, vs, ds, ps, hr, h, hlt, hs => by
    obtain ⟨v, vs', d, ds', p, q, rfl, rfl, rfl, h0, h1⟩ := trodAll_cons h
    simp only [rowedAll, List.all_cons, Bool.and_eq_true, decide_eq_true_eq] at hr
    have hlp : ∀ x ∈ p, x.block < W.heap.size := fun x hx => hlt x (by simp [hx])
    exact trodAll_cons_mk (WideElems.Trod_stays hl hr.1.1 hr.1.2 h0 (fun x hx => hb.same (hlp x hx)) (fun x hx => hs x (by simp [hx])))
      (back_all hl hb (by simp only [rowedAll, hr.2]) h1 (fun x hx => hlt x (by simp [hx])) (fun x hx => hs x (by simp [hx])))

theorem post_law {f : Func} {s : ChangeSpec} {apart fresh handsOn again : Bool} {W W' : World} {args : Array Value} {ds gs : List (DataW H)} {before : List MemPlace} {tb : TypeId} (hl : laidOutB P = true)
    (hts : rowedAll P f.params.toList = true) (hv0 : s.vars = []) (hrt : f.resultTypes = #[tb]) (htb : P.underlying tb = some .bool)
    (hres : (s.fn H (ds ++ gs)).results = [.lit (.bool true)]) (hargs : (s.fn H (ds ++ gs)).args = ds) (hvars : (s.fn H (ds ++ gs)).vars = [])
    (hW : DataW.Whole enc P f.params.toList s.vars apart W args.toList ds gs before) (hb : Below W.heap.size W W') : s.post enc P f apart fresh handsOn again W args (.bool true) W' := by
  have hW0 := hW
  obtain ⟨p, q, hA, hV, rfl, _, _⟩ := hW
  rw [hv0] at hV
  obtain ⟨rfl, rfl⟩ := trodVars_none hV
  have hlt : ∀ x ∈ p, x.block < W.heap.size := fun x hx => by simpa using hW0.lt x (by simpa using hx)
  refine post_of_below (pa := p) (pv := []) hW0 (fun b sp hd => ?_) (fun sp hsp => ?_) (fun sp hsp => ?_) rfl hb (ok_one hrt rfl (okWide_bool_mk htb _))
  · rw [hres, hrt]
    exact trodAll_cons_mk (shut_bool htb _) trodAll_mk0
  · rw [hargs]
    exact back_all hl hb hts hA hlt (fun x hx => hsp x (by simpa using hx))
  · rw [hvars, hv0]; rfl

theorem open_i64 {W : World} {base b : Nat} {sp : Nat → Bool} {held : Bool} {t : TypeId} {v : Value} {d : DataW H} {p : List MemPlace} (ht : P.underlying t = some (.int .i64)) (hv : Value.okWide P W .any base t v)
    (h : DataW.Trod enc P W b sp held t v d p) : ∃ a, v = .int .i64 a ∧ InI a := by
  obtain ⟨a, rfl, rfl, rfl, w⟩ := open_int ht hv h
  have := bounds_i64 w
  exact ⟨a, rfl, by omega, by omega⟩

theorem open_arr2 {W : World} {base b : Nat} {sp : Nat → Bool} {held : Bool} {t e : TypeId} {v : Value} {d : DataW H} {p : List MemPlace} (ht : P.underlying t = some (.array 2 e)) (he : P.underlying e = some (.int .i64)) (hc : P.cellsOf e = 1) (hct : P.cellsOf t = 2)
    (hv : Value.okWide P W .any base t v) (h : DataW.Trod enc P W b sp held t v d p) : ∃ a0 a1, v = .agg #[.int .i64 a0, .int .i64 a1] ∧ InI a0 ∧ InI a1 := by
  obtain ⟨cs, rfl, hsz, _⟩ : ∃ cs, v = .agg cs ∧ cs.size = P.cellsOf t ∧ Row.okWide P W .any base t cs := by
    simpa [Value.okWide, ht] using hv
  rw [hct] at hsz
  obtain ⟨l⟩ := cs
  match l, hsz with
  | [c0, c1], _ =>
    obtain ⟨fuel, hf⟩ := h
    obtain ⟨xs, m, _, _, _, hl, hx⟩ := DataW.trod_array ht hf
    match xs, hl with
    | [x0, x1], _ =>
      have h0 := hx 0 (by omega)
      have h1 := hx 1 (by omega)
      simp [hc, Value.cells] at h0 h1
      obtain ⟨y0, e0, _, w0⟩ := DataW.trod_int he h0
      obtain ⟨y1, e1, _, w1⟩ := DataW.trod_int he h1
      simp at e0 e1
      subst e0 e1
      have b0 := bounds_i64 w0
      have b1 := bounds_i64 w1
      exact ⟨y0, y1, rfl, ⟨by omega, by omega⟩, ⟨by omega, by omega⟩⟩

theorem open_sl {W : World} {base b : Nat} {held : Bool} {t e : TypeId} {v : Value} {d : DataW H} {p : List MemPlace} (ht : P.underlying t = some (.slice e)) (he : P.underlying e = some (.int .i64)) (hc : P.cellsOf e = 1)
    (hv : Value.okWide P W .any base t v) (h : DataW.Trod enc P W b (fun _ => true) held t v d p) : ∃ (A : Option Addr) (l : List Int) (c : Nat), v = .slice A l.length c ∧ l.length ≤ c ∧ c ≤ maxLen ∧ (∀ x ∈ l, InI x) ∧
      (∀ ad, A = some ad → ad.block < W.heap.size ∨ l.length = 0) ∧ (0 < l.length → ∃ ad, A = some ad ∧ ∀ j u, l[j]? = some u → W.cell? (ad.add j) = some (.int .i64 u)) := by
  obtain ⟨a0, len, cap, rfl⟩ := okWide_slice ht hv
  obtain ⟨fuel, hf⟩ := h
  rcases open_ints ht he hc hf with ⟨hcs, hx⟩ | ⟨a, len', cap', zs, hcs, _, hl, hm, hz, hx, hcell, hwz⟩
  · simp [Value.cells] at hcs
    obtain ⟨rfl, rfl, rfl⟩ := hcs
    exact ⟨none, [], 0, rfl, Nat.le_refl _, by unfold maxLen; omega, by simp, by simp, by simp⟩
  · simp [Value.cells] at hcs
    obtain ⟨rfl, rfl, rfl⟩ := hcs
    simp only [if_true] at hz
    have hcl : ∀ i, i < zs.length → W.cell? (a.add i) = some (.int .i64 (zs.getD i 0)) := hcell
    refine ⟨some a, zs.take len, cap, ?_, ?_, hm, ?_, ?_, ?_⟩
    · rw [List.length_take, Nat.min_eq_left (by omega)]
    · rw [List.length_take]; omega
    · intro x hx
      have := bounds_i64 (hwz x (List.mem_of_mem_take hx))
      exact ⟨by omega, by omega⟩
    · intro ad e
      obtain rfl := Option.some.inj e
      by_cases h0 : len = 0
      · right; simp [h0]
      · left
        have := hcl 0 (by omega)
        unfold World.cell? at this
        by_cases hb : (a.add 0).block < W.heap.size
        · simpa [Addr.add] using hb
        · rw [Array.getElem?_eq_none (by omega)] at this
          simp at this
    · intro _
      refine ⟨a, rfl, fun j u hj => ?_⟩
      rw [List.getElem?_take] at hj
      split at hj
      · rw [hcl j (by omega), List.getD, hj]; rfl
      · cases hj
end
end Go.Proofs.YtklomjpnmmaogaaDoor
