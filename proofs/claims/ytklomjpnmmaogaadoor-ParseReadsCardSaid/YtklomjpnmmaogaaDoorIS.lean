/- A region that draws its order, loads cells, and writes these cells at its end: the loads are taken first under a condition S that is asked ahead of the forced tail alone. -/
import Derived.StillTail
import Derived.Deep.RegionHeld3
namespace Go.Proofs.YtklomjpnmmaogaaDoor
open Go
set_option linter.unusedVariables false
set_option linter.unusedSimpArgs false

section
variable {P : Program} {ops : Array Oper} {md : Region.Mode} {Q : Exit → Act → World → Prop} {S : World → Prop} {n : Nat} {K : Act → World → Prop}

/-- The first n operations in whatever order, S behind each; then K, and the rest in their order. -/
def wpPre (P : Program) (md : Region.Mode) (ops : Array Oper) (Q : Exit → Act → World → Prop) (S : World → Prop) (n : Nat) (K : Act → World → Prop) : Nat → Array Bool → Act → World → Prop
  | 0, listed, a, w => Region.seqB md ops (ops.size - n) n listed = true ∧ K a w
  | f + 1, listed, a, w => Region.ready md ops listed ≠ [] ∧ ∀ i ∈ Region.ready md ops listed, i < n ∧ wpOp P ops Q i (fun a' w' => S w' ∧ wpPre P md ops Q S n K f (listed.setIfInBounds i true) a' w') a w

theorem wpAny_of_pre (hK : ∀ listed a w, Region.seqB md ops (ops.size - n) n listed = true → K a w → wpAny P md ops Q (ops.size - n) listed a w) :
    ∀ (f : Nat) (listed : Array Bool) (a : Act) (w : World), wpPre P md ops Q S n K f listed a w → wpAny P md ops Q (f + (ops.size - n)) listed a w
  | 0, listed, a, w, h => by rw [Nat.zero_add]; exact hK _ _ _ h.1 h.2
  | f + 1, listed, a, w, h => by
    rw [show f + 1 + (ops.size - n) = (f + (ops.size - n)) + 1 by omega]
    exact ⟨fun h0 => absurd h0 h.1, fun i hi => wpOp_mono (fun a' w' h' => wpAny_of_pre hK f _ a' w' h'.2) (h.2 i hi).2⟩

theorem wpPre_first {i : Nat} {oi : Oper} {v : Value} (hi : ops[i]? = some oi) (hsel : ∀ (j : Nat) (o : Oper) cs b, ops[j]? = some o → o.op ≠ .select cs b)
    (hs : Region.sinkB md ops n = true) (hc : Region.chainB md ops n = true) (hn : n < ops.size) (hin : i < n)
    (hQ : ∀ c a w, Q (.panic c) (a.put oi.dst v) w → Q (.panic c) a w) :
    ∀ (f : Nat) (listed : Array Bool) (a : Act) (w : World), HeadInv md ops n listed →
      (∀ j oj, ops[j]? = some oj → j ≠ i → listed.getD j true = false → (∀ e ∈ oj.after, Region.binds md e = true → e.on ≠ i) → oi.apart ops oj = true) →
      i ∈ Region.ready md ops listed → YieldsIf P ops S oi v a → S w →
      wpPre P md ops Q S n K f (listed.setIfInBounds i true) (a.put oi.dst v) w → wpPre P md ops Q S n K (f + 1) listed a w := by
  intro f
  induction f with
  | zero =>
    intro listed a w inv _ hr hy hS H
    have hun := (mem_ready.1 hr).1
    refine ⟨fun h => (by rw [h] at hr; cases hr), fun j hj => ?_⟩
    have hjn : j < n := by
      rcases Nat.lt_or_ge j n with h | h
      · exact h
      · exact absurd hj (tail_waits hs hc hn inv _ i rfl hin hun j h)
    refine ⟨hjn, ?_⟩
    by_cases hji : j = i
    · subst hji; exact hy.wpOp hi hS ⟨hS, H⟩
    · have := seqB_ready H.1 j (ready_mono hj hji)
      omega
  | succ f ih =>
    intro listed a w inv hfree hr hy hS H
    have hun := (mem_ready.1 hr).1
    refine ⟨fun h => (by rw [h] at hr; cases hr), fun j hj => ?_⟩
    have hjn : j < n := by
      rcases Nat.lt_or_ge j n with h | h
      · exact h
      · exact absurd hj (tail_waits hs hc hn inv _ i rfl hin hun j h)
    refine ⟨hjn, ?_⟩
    by_cases hji : j = i
    · subst hji; exact hy.wpOp hi hS ⟨hS, H⟩
    · have h1 := (H.2 j (ready_mono hj hji)).2
      obtain ⟨hjun, oj, hoj, hall⟩ := mem_ready.1 hj
      have hnot : ∀ e ∈ oj.after, Region.binds md e = true → e.on ≠ i := fun e he hb heq => by
        have h1 := hall e he hb
        rw [heq, getD_both hun] at h1
        cases h1
      have h2 := wpOp_putIf hoj (hfree j oj hoj hji hjun hnot) (fun cs b => hsel i oi cs b hi) (fun cs b => hsel j oj cs b hoj) hQ hy h1
      have hfree' : ∀ k ok, ops[k]? = some ok → k ≠ i → (listed.setIfInBounds j true).getD k true = false →
          (∀ e ∈ ok.after, Region.binds md e = true → e.on ≠ i) → oi.apart ops ok = true := fun k ok hk hki hun hno => by
        refine hfree k ok hk hki ?_ hno
        by_cases hjk : j = k
        · subst hjk; exact hjun
        · rw [getD_set_ne true hjk] at hun; exact hun
      refine wpOp_mono (fun a' w' h3 => ⟨h3.2.1, ih (listed.setIfInBounds j true) a' w' (inv.set hj hjn) hfree' (ready_mono hr (Ne.symm hji)) h3.1 h3.2.1 ?_⟩) h2
      rw [Array.setIfInBounds_comm _ _ hji]
      exact h3.2.2

/-- The goal of a walk: under the invariant of the head. -/
def PreG (P : Program) (ops : Array Oper) (Q : Exit → Act → World → Prop) (S : World → Prop) (n : Nat) (K : Act → World → Prop) (f : Nat) (listed : Array Bool) (a : Act) (w : World) : Prop :=
  HeadInv .any ops n listed → wpPre P .any ops Q S n K f listed a w
/-- What is asked of the region once. -/
def Region.tailB (ops : Array Oper) (n : Nat) : Bool := Region.noSelect ops && decide (n < ops.size) && Region.sinkB .any ops n && Region.chainB .any ops n
theorem PreG.take {i : Nat} {oi : Oper} {v : Value} {f : Nat} {listed : Array Bool} {a : Act} {w : World} (hi : ops[i]? = some oi) (hB : Region.tailB ops n = true)
    (hf : (decide (i < n) && (Region.free .any ops listed i && (Region.ready .any ops listed).contains i)) = true)
    (hQ : ∀ c a w, Q (.panic c) (a.put oi.dst v) w → Q (.panic c) a w) (hy : YieldsIf P ops S oi v a) (hS : S w)
    (h : PreG P ops Q S n K f (listed.setIfInBounds i true) (a.put oi.dst v) w) : PreG P ops Q S n K (f + 1) listed a w := fun inv => by
  simp only [Region.tailB, Bool.and_eq_true, decide_eq_true_eq] at hB hf
  obtain ⟨⟨⟨hsel, hn⟩, hs⟩, hc⟩ := hB
  obtain ⟨hin, hf, hr⟩ := hf
  have hr' : i ∈ Region.ready .any ops listed := by simpa using hr
  exact wpPre_first hi (Region.noSelect_spec hsel) hs hc hn hin hQ f listed a w inv (Region.free_spec hi hf) hr' hy hS (h (inv.set hr' hin))
def AllPre (P : Program) (ops : Array Oper) (Q : Exit → Act → World → Prop) (S : World → Prop) (n : Nat) (K : Act → World → Prop) (f : Nat) (listed : Array Bool) (a : Act) (w : World) (rs : List Nat) : Prop :=
  ∀ i ∈ rs, wpOp P ops Q i (fun a' w' => S w' ∧ PreG P ops Q S n K f (listed.setIfInBounds i true) a' w') a w
theorem AllPre.nil {f : Nat} {listed : Array Bool} {a : Act} {w : World} : AllPre P ops Q S n K f listed a w [] := fun _ h => by cases h
theorem AllPre.cons {f : Nat} {listed : Array Bool} {a : Act} {w : World} {i : Nat} {o : Oper} {rs : List Nat} (ho : ops[i]? = some o)
    (h : ∀ K' : Act → World → Prop, Shut (∀ a w, S w → (S w → PreG P ops Q S n K f (listed.setIfInBounds i true) a w) → K' a w) → if Region.wanted o (yielded ops a.tmps) = true then Oper.wp P o a w K' Q else K' (a.put o.dst undef) w)
    (hs : AllPre P ops Q S n K f listed a w rs) : AllPre P ops Q S n K f listed a w (i :: rs) := fun j hj => by
  rcases List.mem_cons.1 hj with rfl | hj
  · exact wpOp_step ho (fun K' hK => h K' (fun a w hS hW => hK a w ⟨hS, hW hS⟩))
  · exact hs j hj
theorem PreG.ready {rs : List Nat} {f : Nat} {listed : Array Bool} {a : Act} {w : World} (hr : Region.ready .any ops listed = rs) (hne : (!rs.isEmpty && rs.all fun i => decide (i < n)) = true)
    (h : AllPre P ops Q S n K f listed a w rs) : PreG P ops Q S n K (f + 1) listed a w := fun inv => by
  simp only [Bool.and_eq_true, List.all_eq_true, decide_eq_true_eq] at hne
  refine ⟨fun h0 => by rw [hr] at h0; rw [h0] at hne; simp at hne, fun i hi => ⟨hne.2 i (hr ▸ hi), ?_⟩⟩
  have hin := hne.2 i (hr ▸ hi)
  exact wpOp_mono (fun a' w' h' => ⟨h'.1, h'.2 (inv.set hi hin)⟩) (h i (hr ▸ hi))
theorem PreG.done {listed : Array Bool} {a : Act} {w : World} (hB : Region.seqB .any ops (ops.size - n) n listed = true) (h : K a w) : PreG P ops Q S n K 0 listed a w := fun _ => ⟨hB, h⟩
end
/-- The beginning: the first n operations under S, then the rest in their order. -/
theorem wp_region_pre {P : Program} {S : World → Prop} {id : Nat} {Q : Exit → Act → World → Prop} {a : Act} {w : World} {l : List Oper} (n : Nat) (hm : P.follows .mixedOrders = true) (hB : Region.tailB l.toArray n = true)
    (hS : S w.drew) (h : S w.drew → PreG P l.toArray Q S n (wpList P l.toArray Q (l.drop n)) n (Array.replicate l.toArray.size false) a w.drew) : (Code.region id l.toArray true).wp P Q a w := by
  have hB' := hB
  simp only [Region.tailB, Bool.and_eq_true, decide_eq_true_eq] at hB'
  obtain ⟨⟨⟨hsel, hn⟩, hs⟩, hc⟩ := hB'
  have hdl : (l.drop n).length = l.toArray.size - n := by simp
  have inv0 : HeadInv .any l.toArray n (Array.replicate l.toArray.size false) :=
    ⟨by simp, fun j oj _ hl => (by rw [getD_replicate_false] at hl; cases hl), fun t _ ht => getD_in (by simpa using ht) (getD_replicate_false _ _)⟩
  have H := h hS inv0
  refine wp_region_any hm ?_
  have := wpAny_of_pre (P := P) (md := .any) (Q := Q) (n := n) (K := wpList P l.toArray Q (l.drop n)) (fun listed a' w' hL hK => by
    have := wpAny_of_seq (P := P) (md := .any) (Q' := Q) (l.drop n) n listed a' w' (fun j => by simp [List.getElem?_drop]) (by rw [hdl]; exact hL) hK
    rwa [hdl] at this) n _ a w.drew H
  rw [show n + (l.toArray.size - n) = l.toArray.size by omega] at this
  exact this
end Go.Proofs.YtklomjpnmmaogaaDoor
