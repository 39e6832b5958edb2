/- A scan under way; close. -/
import Derived.Test.YtklomjpnmmaogaaDoorLD
import Derived.Test.YtklomjpnmmaogaaDoorLC
import Derived.Test.YtklomjpnmmaogaaDoorIS
import Derived.StillTailTactics
import Derived.Deep.RegionHeld3
namespace Go.Proofs.YtklomjpnmmaogaaDoor
open Go Go.RowKit
set_option linter.unusedVariables false
set_option linter.unusedSimpArgs false
set_option maxRecDepth 100000

theorem info_T : (Tryd.prog.info? 116).map (fun i => (i.zero, i.size, i.bytes)) = some (some (.agg #[.int .i64 0, .string ⟨#[]⟩, .int .i64 0, .int .i64 0, .int .i64 0]), 5, 48) := by kernel_rfl
/-- A scan under way: its box at g (which holds the list R), the tokens (row R'), the iterator at k, the place that Lex hands back at b. -/
structure Sc (w0 w : World) (g k b p : Nat) (s : ByteArray) (R R' : Value) (l : List Tok) (line col : Nat) (fr : Int) (al ac : Nat) (rem : Bool) : Prop where
  box : Blk w g 110 (scanC s R line col fr al ac rem)
  row : w.ownsRow w0.heap.size 116 5 R' l.length (toksC l)
  it : w.heap[k]? = some (.stringIter s p)
  pc : Blk w b 29 #[.int .i64 0, .int .i64 0]
  lo : w0.heap.size ≤ g
  klo : w0.heap.size ≤ k
  blo : w0.heap.size ≤ b
  bl : Below w0.heap.size w0 w
section
variable {w0 w w' : World} {g k b p : Nat} {s : ByteArray} {R R' : Value} {l : List Tok} {line col al ac : Nat} {fr : Int} {rem : Bool}
theorem Sc.below (h : Sc w0 w g k b p s R R' l line col fr al ac rem) (hb : Below w.heap.size w w') : Sc w0 w' g k b p s R R' l line col fr al ac rem :=
  ⟨h.box.below hb, own_below h.row hb, (hb.block k (Array.getElem?_eq_some_iff.1 h.it).1).trans h.it, h.pc.below hb, h.lo, h.klo, h.blo, bl_step h.bl hb⟩
theorem Sc.gk (h : Sc w0 w g k b p s R R' l line col fr al ac rem) : k ≠ g := fun e => by
  have h1 := h.box.out
  rw [← e, h.it] at h1
  cases h1
theorem Sc.gb (h : Sc w0 w g k b p s R R' l line col fr al ac rem) : b ≠ g := fun e => by
  have h1 := h.box.out
  rw [← e, h.pc.out] at h1
  injection h1 with h1
  injection h1 with _ h2
  exact absurd h2 (by decide)
theorem Sc.bk (h : Sc w0 w g k b p s R R' l line col fr al ac rem) : b ≠ k := fun e => by
  have h1 := h.pc.out
  rw [e, h.it] at h1
  cases h1
theorem Sc.rg (h : Sc w0 w g k b p s R R' l line col fr al ac rem) : R'.ownBlock ≠ some g := own_blk_apart h.row h.box (by decide)
theorem Sc.rb (h : Sc w0 w g k b p s R R' l line col fr al ac rem) : R'.ownBlock ≠ some b := own_blk_apart h.row h.pc (by decide)
/-- A store into the box. -/
theorem Sc.put (h : Sc w0 w g k b p s R R' l line col fr al ac rem) (i : Nat) (u : Value) {R2 : Value} {line2 col2 al2 ac2 : Nat} {fr2 : Int} {rem2 : Bool} (e : (scanC s R line col fr al ac rem).setIfInBounds i u = scanC s R2 line2 col2 fr2 al2 ac2 rem2) :
    Sc w0 (w.setCell ⟨g, i, none⟩ u) g k b p s R2 R' l line2 col2 fr2 al2 ac2 rem2 :=
  ⟨h.box.put i u e, own_far h.row (p := ⟨g, i, none⟩) h.rg u, (Below.heap_setCell w ⟨g, i, none⟩ u k h.gk).trans h.it, h.pc.far (p := ⟨g, i, none⟩) h.gb u, h.lo, h.klo, h.blo, bl_set h.bl (p := ⟨g, i, none⟩) h.lo u⟩
/-- A store into another block that is none of the scan's. -/
theorem Sc.far (h : Sc w0 w g k b p s R R' l line col fr al ac rem) {q : Nat} {t : TypeId} {cs : Array Value} (hq : Blk w q t cs) (hlo : w0.heap.size ≤ q) (hg : g ≠ q) (hb : b ≠ q) (hr : R'.ownBlock ≠ some q) (i : Nat) (u : Value) : Sc w0 (w.setCell ⟨q, i, none⟩ u) g k b p s R R' l line col fr al ac rem := by
  have hk : k ≠ q := fun e => by
    have h1 := hq.out
    rw [← e, h.it] at h1
    cases h1
  exact ⟨h.box.far (p := ⟨q, i, none⟩) hg u, own_far h.row (p := ⟨q, i, none⟩) hr u, (Below.heap_setCell w ⟨q, i, none⟩ u k hk).trans h.it, h.pc.far (p := ⟨q, i, none⟩) hb u, h.lo, h.klo, h.blo, bl_set h.bl (p := ⟨q, i, none⟩) hlo u⟩
/-- The next block to be made is none of the scan's. -/
def Fresh (w0 : World) (g b q : Nat) (R : Value) : Prop := g ≠ q ∧ b ≠ q ∧ R.ownBlock ≠ some q ∧ w0.heap.size ≤ q
theorem Sc.fresh (h : Sc w0 w g k b p s R R' l line col fr al ac rem) : Fresh w0 g b w.heap.size R' :=
  ⟨Nat.ne_of_lt h.box.lt, Nat.ne_of_lt h.pc.lt, fun e => Nat.lt_irrefl _ (own_sz h.row _ e), h.bl.size⟩
theorem Sc.far5 (h : Sc w0 w g k b p s R R' l line col fr al ac rem) {q : Nat} {t : TypeId} {a1 a2 a3 a4 a5 a' b' c' d' e' : Value} (hq : Blk w q t #[a1, a2, a3, a4, a5]) (hn : Fresh w0 g b q R') :
    Sc w0 (((((w.setCell ⟨q, 0, none⟩ a').setCell ⟨q, 1, none⟩ b').setCell ⟨q, 2, none⟩ c').setCell ⟨q, 3, none⟩ d').setCell ⟨q, 4, none⟩ e') g k b p s R R' l line col fr al ac rem :=
  ((((h.far hq hn.2.2.2 hn.1 hn.2.1 hn.2.2.1 0 a').far (hq.put 0 a' rfl) hn.2.2.2 hn.1 hn.2.1 hn.2.2.1 1 b').far ((hq.put 0 a' rfl).put 1 b' rfl) hn.2.2.2 hn.1 hn.2.1 hn.2.2.1 2 c').far (((hq.put 0 a' rfl).put 1 b' rfl).put 2 c' rfl) hn.2.2.2 hn.1 hn.2.1 hn.2.2.1 3 d').far ((((hq.put 0 a' rfl).put 1 b' rfl).put 2 c' rfl).put 3 d' rfl) hn.2.2.2 hn.1 hn.2.1 hn.2.2.1 4 e'
/-- The iterator goes on. -/
theorem Sc.next (h : Sc w0 w g k b p s R R' l line col fr al ac rem) (p' : Nat) : Sc w0 (w.iterAt k s p') g k b p' s R R' l line col fr al ac rem :=
  ⟨h.box.iterAt h.it p', own_iterAt h.row h.it p', Lib.iterAt_heap w k s p p' h.it, h.pc.iterAt h.it p', h.lo, h.klo, h.blo, Lib.below_iterAt h.bl h.klo s p'⟩
/-- append of one token. -/
theorem Sc.app (h : Sc w0 w g k b p s R R' l line col fr al ac rem) (hl : l.length ≤ 2000000) {q : Nat} {t : TypeId} {x : Tok} (hq : Blk w q t #[.int .i64 x.kind, .string ⟨x.text.toArray⟩, .int .i64 x.num, .int .i64 x.line, .int .i64 x.col]) {ty : TypeId} :
    ∃ D d X, (Builtin.append_ #[59, 59] ty #[R', .slice (some ⟨q, 0, none⟩) 1 1]).run Tryd.prog w = .ok (.slice D (l.length + 1) d) X ∧ Sc w0 X g k b p s R (.slice D (l.length + 1) d) (l ++ [x]) line col fr al ac rem ∧ w.grownBy X R'.ownBlock := by
  obtain ⟨v', X, hrun, ho, hg, hat⟩ := run_app (t := 59) (ty := ty) (c := 1) Tryd.underlying59 info_T rfl (by decide) h.row (reads5 hq) (fun u hu => by
    simp only [List.mem_cons, List.not_mem_nil, or_false] at hu
    rcases hu with rfl | rfl | rfl | rfl | rfl <;> rfl) (by unfold maxLen; omega) (by omega) h.bl.size
  obtain ⟨D, d, rfl, _⟩ := own_slice ho
  have hk : R'.ownBlock ≠ some k := own_iter_apart h.row h.it
  refine ⟨D, d, X, hrun, ⟨h.box.grown hg (fun e => h.rg e.symm), ?_, (hg.block k (Array.getElem?_eq_some_iff.1 h.it).1 (fun e => hk e.symm)).trans h.it, h.pc.grown hg (fun e => h.rb e.symm), h.lo, h.klo, h.blo, bl_grown h.bl hg (fun k hk => own_base h.row k hk)⟩, hg⟩
  rw [List.length_append, toksC_app]
  simpa [toksC, tokC] using ho
theorem Sc.c (h : Sc w0 w g k b p s R R' l line col fr al ac rem) (i : Nat) : w.cell? ⟨g, i, none⟩ = (scanC s R line col fr al ac rem)[i]? := h.box.cell i
theorem Sc.f (h : Sc w0 w g k b p s R R' l line col fr al ac rem) (i : Nat) : w.frozen? ⟨g, i, none⟩ = false := h.box.frozen i
end
/-- A run ends: its token, or its error. -/
def ClosePost (w0 w' : World) (g k b p : Nat) (s : ByteArray) (l : List Tok) (line col al ac : Nat) (rem : Bool) (t : List UInt8) (e : Ending) : Prop :=
  (¬ (tokenL t).1 = 0 ∧ e = .returned (.int .i64 (tokenL t).1) ∧ ∃ R fr, Sc w0 w' g k b p s R R l line col fr al ac rem) ∨
    ((tokenL t).1 = 0 ∧ e = .returned (.int .i64 0) ∧ ∃ R, Sc w0 w' g k b p s R R (l ++ [⟨(tokenL t).2.1, t, (tokenL t).2.2, al, ac⟩]) line col (-1) al ac rem)
section
variable {w0 w : World} {g k b p : Nat} {s : ByteArray} {R : Value} {l : List Tok} {line col al ac : Nat} {fr : Int} {rem : Bool}
theorem close_none (i : Nat) (hS : Sc w0 w g k b p s R R l line col (-1) al ac rem) : Calls Tryd.prog 50 #[.pointer (some ⟨g, 0, none⟩), .int .i64 i] w fun e w' => e = .returned (.int .i64 0) ∧ w' = w := by
  have c4 : w.cell? ⟨g, 4, none⟩ = some (.int .i64 (-1)) := (hS.c 4).trans rfl
  have z := hS.box.lt
  clear hS
  go_enter Tryd.func50, Tryd.ntmps50
  go_wp2
  go_ret
  exact ⟨rfl, rfl⟩
set_option maxHeartbeats 3200000 in
theorem close_run (f i : Nat) (t : List UInt8) (hf : f ≤ i) (hi : i ≤ s.size) (hs : s.size ≤ 281474976710656) (ht : s.extract f i = ⟨t.toArray⟩) (hr : RunT t) (hw : LexW w0) (hl : l.length ≤ 2000000) (hS : Sc w0 w g k b p s R R l line col f al ac rem) :
    Calls Tryd.prog 50 #[.pointer (some ⟨g, 0, none⟩), .int .i64 i] w fun e w' => ClosePost w0 w' g k b p s l line col al ac rem t e := by
  unfold ClosePost
  have hsz : (⟨t.toArray⟩ : ByteArray).size ≤ 281474976710656 := by rw [← ht, ByteArray.size_extract]; omega
  have HT := Lib.hid (fun w' (hb : Below w0.heap.size w0 w') => token_any t w' hr hsz (hw.below hb))
  obtain ⟨er, kd, nm, htk⟩ : ∃ er kd nm, tokenL t = (er, kd, nm) := ⟨_, _, _, rfl⟩
  rw [htk] at HT ⊢
  simp only at HT ⊢
  have c0 : w.cell? ⟨g, 0, none⟩ = some (.string s) := (hS.c 0).trans rfl
  have c4 : w.cell? ⟨g, 4, none⟩ = some (.int .i64 f) := (hS.c 4).trans rfl
  have z := hS.box.lt
  have n1 : ¬ (f : Int) < 0 := by omega
  have n2 : (0 : Int) ≤ f := by omega
  have n3 : (f : Int) ≤ i := by omega
  have n4 : (i : Int) ≤ s.size := by omega
  clear hr htk
  by_cases he : er = 0
  · subst he
    rw [if_pos rfl] at HT
    go_enter Tryd.func50, Tryd.ntmps50
    go_wp2_with fail
    refine wp_region_pre (S := fun w' => w'.cell? ⟨g, 0, none⟩ = some (.string s) ∧ w'.cell? ⟨g, 4, none⟩ = some (.int .i64 (f : Int))) 16 (by kernel_rfl) (by kernel_rfl) ?_ (fun hH0 => ?_)
    · exact ⟨((hS.below (bl_drew (Below.refl _ _))).c 0).trans rfl, ((hS.below (bl_drew (Below.refl _ _))).c 4).trans rfl⟩
    refine PreG.take (i := 0) (v := ?vv1) rfl (by kernel_rfl) (by kernel_rfl) (fun _ _ _ h => h) (Or.inl ⟨by rfl, ?hy1⟩) (by assumption) ?rest1
    case hy1 => intro w hSw; (try dsimp only at hSw); first | (go_simp; done) | (go_simp; with_reducible rfl)
    try simp only [Act.put, List.getElem_toArray, List.getElem_cons_zero, List.getElem_cons_succ, List.setIfInBounds_toArray, List.set_cons_zero, List.set_cons_succ]
    refine PreG.take (i := 1) (v := ?vv2) rfl (by kernel_rfl) (by kernel_rfl) (fun _ _ _ h => h) (Or.inl ⟨by rfl, ?hy2⟩) (by assumption) ?rest2
    case hy2 => intro w hSw; (try dsimp only at hSw); first | (go_simp; done) | (go_simp; with_reducible rfl)
    try simp only [Act.put, List.getElem_toArray, List.getElem_cons_zero, List.getElem_cons_succ, List.setIfInBounds_toArray, List.set_cons_zero, List.set_cons_succ]
    refine PreG.take (i := 2) (v := ?vv3) rfl (by kernel_rfl) (by kernel_rfl) (fun _ _ _ h => h) (Or.inl ⟨by rfl, ?hy3⟩) (by assumption) ?rest3
    case hy3 => intro w hSw; (try dsimp only at hSw); first | (go_simp; done) | (go_simp; with_reducible rfl)
    try simp only [Act.put, List.getElem_toArray, List.getElem_cons_zero, List.getElem_cons_succ, List.setIfInBounds_toArray, List.set_cons_zero, List.set_cons_succ]
    refine PreG.take (i := 3) (v := ?vv4) rfl (by kernel_rfl) (by kernel_rfl) (fun _ _ _ h => h) (Or.inl ⟨by rfl, ?hy4⟩) (by assumption) ?rest4
    case hy4 => intro w hSw; (try dsimp only at hSw); first | (go_simp; done) | (go_simp; with_reducible rfl)
    try simp only [Act.put, List.getElem_toArray, List.getElem_cons_zero, List.getElem_cons_succ, List.setIfInBounds_toArray, List.set_cons_zero, List.set_cons_succ]
    refine PreG.take (i := 4) (v := ?vv5) rfl (by kernel_rfl) (by kernel_rfl) (fun _ _ _ h => h) (Or.inl ⟨by rfl, ?hy5⟩) (by assumption) ?rest5
    case hy5 => intro w hSw; (try dsimp only at hSw); first | (go_simp; done) | (go_simp; with_reducible rfl)
    try simp only [Act.put, List.getElem_toArray, List.getElem_cons_zero, List.getElem_cons_succ, List.setIfInBounds_toArray, List.set_cons_zero, List.set_cons_succ]
    refine PreG.take (i := 5) (v := ?vv6) rfl (by kernel_rfl) (by kernel_rfl) (fun _ _ _ h => h) (Or.inl ⟨by rfl, ?hy6⟩) (by assumption) ?rest6
    case hy6 => intro w hSw; (try dsimp only at hSw); first | (go_simp; done) | (go_simp; with_reducible rfl)
    try simp only [Act.put, List.getElem_toArray, List.getElem_cons_zero, List.getElem_cons_succ, List.setIfInBounds_toArray, List.set_cons_zero, List.set_cons_succ]
    refine PreG.take (i := 6) (v := ?vv7) rfl (by kernel_rfl) (by kernel_rfl) (fun _ _ _ h => h) (Or.inl ⟨by rfl, ?hy7⟩) (by assumption) ?rest7
    case hy7 => intro w hSw; (try dsimp only at hSw); first | (go_simp; done) | (go_simp; with_reducible rfl)
    try simp only [Act.put, List.getElem_toArray, List.getElem_cons_zero, List.getElem_cons_succ, List.setIfInBounds_toArray, List.set_cons_zero, List.set_cons_succ]
    refine PreG.take (i := 7) (v := ?vv8) rfl (by kernel_rfl) (by kernel_rfl) (fun _ _ _ h => h) (Or.inl ⟨by rfl, ?hy8⟩) (by assumption) ?rest8
    case hy8 => intro w hSw; (try dsimp only at hSw); first | (go_simp; done) | (go_simp; with_reducible rfl)
    try simp only [Act.put, List.getElem_toArray, List.getElem_cons_zero, List.getElem_cons_succ, List.setIfInBounds_toArray, List.set_cons_zero, List.set_cons_succ]
    refine PreG.take (i := 8) (v := ?vv9) rfl (by kernel_rfl) (by kernel_rfl) (fun _ _ _ h => h) (Or.inl ⟨by rfl, ?hy9⟩) (by assumption) ?rest9
    case hy9 => intro w hSw; (try dsimp only at hSw); first | (go_simp; done) | (go_simp; with_reducible rfl)
    try simp only [Act.put, List.getElem_toArray, List.getElem_cons_zero, List.getElem_cons_succ, List.setIfInBounds_toArray, List.set_cons_zero, List.set_cons_succ]
    refine PreG.take (i := 9) (v := ?vv10) rfl (by kernel_rfl) (by kernel_rfl) (fun _ _ _ h => h) (Or.inl ⟨by rfl, ?hy10⟩) (by assumption) ?rest10
    case hy10 => intro w hSw; (try dsimp only at hSw); first | (go_simp; done) | (go_simp; with_reducible rfl)
    try simp only [Act.put, List.getElem_toArray, List.getElem_cons_zero, List.getElem_cons_succ, List.setIfInBounds_toArray, List.set_cons_zero, List.set_cons_succ]
    refine PreG.ready (rs := [10, 14]) (by kernel_rfl) (by kernel_rfl) ?_
    refine AllPre.cons rfl (fun K hK => ?_) ?_
    · go_simp
      have P11 := (hS.below (bl_drew (Below.refl _ _)))
      (with_reducible refine (HT.out _ P11.bl).mono ?_); rintro e X11 ⟨rfl, hb11⟩
      go_wp2_with fail
      have S11 := P11.below hb11
      clear P11 hb11
      refine hK.out _ _ ?_ (fun hH1 => ?_)
      · exact ⟨(S11.c 0).trans rfl, (S11.c 4).trans rfl⟩
      clear hK K hH0
      try simp only [Act.put, List.getElem_toArray, List.getElem_cons_zero, List.getElem_cons_succ, List.setIfInBounds_toArray, List.set_cons_zero, List.set_cons_succ]
      refine PreG.take (i := 11) (v := ?vv12) rfl (by kernel_rfl) (by kernel_rfl) (fun _ _ _ h => h) (Or.inl ⟨by rfl, ?hy12⟩) (by assumption) ?rest12
      case hy12 => intro w hSw; (try dsimp only at hSw); first | (go_simp; done) | (go_simp; with_reducible rfl)
      try simp only [Act.put, List.getElem_toArray, List.getElem_cons_zero, List.getElem_cons_succ, List.setIfInBounds_toArray, List.set_cons_zero, List.set_cons_succ]
      refine PreG.take (i := 12) (v := ?vv13) rfl (by kernel_rfl) (by kernel_rfl) (fun _ _ _ h => h) (Or.inl ⟨by rfl, ?hy13⟩) (by assumption) ?rest13
      case hy13 => intro w hSw; (try dsimp only at hSw); first | (go_simp; done) | (go_simp; with_reducible rfl)
      try simp only [Act.put, List.getElem_toArray, List.getElem_cons_zero, List.getElem_cons_succ, List.setIfInBounds_toArray, List.set_cons_zero, List.set_cons_succ]
      refine PreG.take (i := 13) (v := ?vv14) rfl (by kernel_rfl) (by kernel_rfl) (fun _ _ _ h => h) (Or.inl ⟨by rfl, ?hy14⟩) (by assumption) ?rest14
      case hy14 => intro w hSw; (try dsimp only at hSw); first | (go_simp; done) | (go_simp; with_reducible rfl)
      try simp only [Act.put, List.getElem_toArray, List.getElem_cons_zero, List.getElem_cons_succ, List.setIfInBounds_toArray, List.set_cons_zero, List.set_cons_succ]
      refine PreG.ready (rs := [14]) (by kernel_rfl) (by kernel_rfl) ?_
      refine AllPre.cons rfl (fun K hK => ?_) ?_
      · have FR := S11.fresh
        go_simp
        refine hK.out _ _ ?_ (fun hH2 => ?_)
        · exact ⟨((S11.below (bl_alloc (Below.refl _ _) (.cells #[.int .i64 0, .string ⟨#[]⟩, .int .i64 0, .int .i64 0, .int .i64 0] 116))).c 0).trans rfl, ((S11.below (bl_alloc (Below.refl _ _) (.cells #[.int .i64 0, .string ⟨#[]⟩, .int .i64 0, .int .i64 0, .int .i64 0] 116))).c 4).trans rfl⟩
        clear hK K hH1
        try simp only [Act.put, List.getElem_toArray, List.getElem_cons_zero, List.getElem_cons_succ, List.setIfInBounds_toArray, List.set_cons_zero, List.set_cons_succ]
        refine PreG.ready (rs := [15]) (by kernel_rfl) (by kernel_rfl) ?_
        refine AllPre.cons rfl (fun K hK => ?_) ?_
        · have P16 := (S11.below (bl_alloc (Below.refl _ _) (.cells #[.int .i64 0, .string ⟨#[]⟩, .int .i64 0, .int .i64 0, .int .i64 0] 116)))
          have Q16 : Blk (X11.alloc (.cells #[.int .i64 0, .string ⟨#[]⟩, .int .i64 0, .int .i64 0, .int .i64 0] 116)) (X11.heap.size) 116 #[.int .i64 0, .string ⟨#[]⟩, .int .i64 0, .int .i64 0, .int .i64 0] := (Blk.new _ _ _)
          generalize (X11.alloc (.cells #[.int .i64 0, .string ⟨#[]⟩, .int .i64 0, .int .i64 0, .int .i64 0] 116)) = Y16 at P16 Q16 ⊢
          have q16_z : X11.heap.size < Y16.heap.size := Q16.lt
          have q16_c0 : Y16.cell? ⟨X11.heap.size, 0, none⟩ = some (.int .i64 0) := (Q16.cell 0).trans rfl
          have q16_f0 := Q16.frozen 0
          have q16_c1 : Y16.cell? ⟨X11.heap.size, 1, none⟩ = some (.string ⟨#[]⟩) := (Q16.cell 1).trans rfl
          have q16_f1 := Q16.frozen 1
          have q16_c2 : Y16.cell? ⟨X11.heap.size, 2, none⟩ = some (.int .i64 0) := (Q16.cell 2).trans rfl
          have q16_f2 := Q16.frozen 2
          have q16_c3 : Y16.cell? ⟨X11.heap.size, 3, none⟩ = some (.int .i64 0) := (Q16.cell 3).trans rfl
          have q16_f3 := Q16.frozen 3
          have q16_c4 : Y16.cell? ⟨X11.heap.size, 4, none⟩ = some (.int .i64 0) := (Q16.cell 4).trans rfl
          have q16_f4 := Q16.frozen 4
          go_simp
          have S16 := P16.far5 Q16 FR (a' := .int .i64 kd) (b' := .string ⟨t.toArray⟩) (c' := .int .i64 nm) (d' := .int .i64 0) (e' := .int .i64 0)
          have B16 : Blk (((((Y16.setCell ⟨X11.heap.size, 0, none⟩ (.int .i64 kd)).setCell ⟨X11.heap.size, 1, none⟩ (.string ⟨t.toArray⟩)).setCell ⟨X11.heap.size, 2, none⟩ (.int .i64 nm)).setCell ⟨X11.heap.size, 3, none⟩ (.int .i64 0)).setCell ⟨X11.heap.size, 4, none⟩ (.int .i64 0)) (X11.heap.size) 116 #[.int .i64 kd, .string ⟨t.toArray⟩, .int .i64 nm, .int .i64 0, .int .i64 0] := Q16.put5
          clear P16 Q16 q16_z q16_c0 q16_f0 q16_c1 q16_f1 q16_c2 q16_f2 q16_c3 q16_f3 q16_c4 q16_f4
          generalize (((((Y16.setCell ⟨X11.heap.size, 0, none⟩ (.int .i64 kd)).setCell ⟨X11.heap.size, 1, none⟩ (.string ⟨t.toArray⟩)).setCell ⟨X11.heap.size, 2, none⟩ (.int .i64 nm)).setCell ⟨X11.heap.size, 3, none⟩ (.int .i64 0)).setCell ⟨X11.heap.size, 4, none⟩ (.int .i64 0)) = V16 at S16 B16 ⊢
          refine hK.out _ _ ?_ (fun hH3 => ?_)
          · exact ⟨(S16.c 0).trans rfl, (S16.c 4).trans rfl⟩
          clear hK K hH2
          try simp only [Act.put, List.getElem_toArray, List.getElem_cons_zero, List.getElem_cons_succ, List.setIfInBounds_toArray, List.set_cons_zero, List.set_cons_succ]
          refine PreG.done (by kernel_rfl) ?_
          simp only [List.drop_succ_cons, List.drop_zero]
          clear hH3
          have c5 : V16.cell? ⟨g, 5, none⟩ = some (.int .i64 al) := (S16.c 5).trans rfl
          have c6 : V16.cell? ⟨g, 6, none⟩ = some (.int .i64 ac) := (S16.c 6).trans rfl
          have z2 := S16.box.lt
          have t_z : X11.heap.size < V16.heap.size := B16.lt
          have t_c0 : V16.cell? ⟨X11.heap.size, 0, none⟩ = some (.int .i64 kd) := (B16.cell 0).trans rfl
          have t_f0 := B16.frozen 0
          have t_c1 : V16.cell? ⟨X11.heap.size, 1, none⟩ = some (.string ⟨t.toArray⟩) := (B16.cell 1).trans rfl
          have t_f1 := B16.frozen 1
          have t_c2 : V16.cell? ⟨X11.heap.size, 2, none⟩ = some (.int .i64 nm) := (B16.cell 2).trans rfl
          have t_f2 := B16.frozen 2
          have t_c3 : V16.cell? ⟨X11.heap.size, 3, none⟩ = some (.int .i64 0) := (B16.cell 3).trans rfl
          have t_f3 := B16.frozen 3
          have t_c4 : V16.cell? ⟨X11.heap.size, 4, none⟩ = some (.int .i64 0) := (B16.cell 4).trans rfl
          have t_f4 := B16.frozen 4
          go_wp2_with fail
          have S6 := (S16.far B16 FR.2.2.2 FR.1 FR.2.1 FR.2.2.1 3 (.int .i64 al)).far (B16.put 3 (.int .i64 al) rfl) FR.2.2.2 FR.1 FR.2.1 FR.2.2.1 4 (.int .i64 ac)
          have B6 : Blk ((V16.setCell ⟨X11.heap.size, 3, none⟩ (.int .i64 al)).setCell ⟨X11.heap.size, 4, none⟩ (.int .i64 ac)) (X11.heap.size) 116 #[.int .i64 kd, .string ⟨t.toArray⟩, .int .i64 nm, .int .i64 al, .int .i64 ac] := (B16.put 3 _ rfl).put 4 _ rfl
          clear c5 c6 z2 t_z t_c0 t_f0 t_c1 t_f1 t_c2 t_f2 t_c3 t_f3 t_c4 t_f4
          generalize (V16.setCell ⟨X11.heap.size, 3, none⟩ (.int .i64 al)).setCell ⟨X11.heap.size, 4, none⟩ (.int .i64 ac) = U at S6 B6 ⊢
          refine wp_region_pre (S := fun w' => w'.cell? ⟨g, 1, none⟩ = some R ∧ w'.cell? ⟨X11.heap.size, 0, none⟩ = some (.int .i64 kd) ∧ w'.cell? ⟨X11.heap.size, 1, none⟩ = some (.string ⟨t.toArray⟩) ∧ w'.cell? ⟨X11.heap.size, 2, none⟩ = some (.int .i64 nm) ∧ w'.cell? ⟨X11.heap.size, 3, none⟩ = some (.int .i64 al) ∧ w'.cell? ⟨X11.heap.size, 4, none⟩ = some (.int .i64 ac)) 8 (by kernel_rfl) (by kernel_rfl) ?_ (fun hH0 => ?_)
          · exact ⟨((S6.below (bl_drew (Below.refl _ _))).c 1).trans rfl, ((B6.below (bl_drew (Below.refl _ _))).cell 0).trans rfl, ((B6.below (bl_drew (Below.refl _ _))).cell 1).trans rfl, ((B6.below (bl_drew (Below.refl _ _))).cell 2).trans rfl, ((B6.below (bl_drew (Below.refl _ _))).cell 3).trans rfl, ((B6.below (bl_drew (Below.refl _ _))).cell 4).trans rfl⟩
          refine PreG.take (i := 0) (v := ?vv17) rfl (by kernel_rfl) (by kernel_rfl) (fun _ _ _ h => h) (Or.inl ⟨by rfl, ?hy17⟩) (by assumption) ?rest17
          case hy17 => intro w hSw; (try dsimp only at hSw); first | (go_simp; done) | (go_simp; with_reducible rfl)
          try simp only [Act.put, List.getElem_toArray, List.getElem_cons_zero, List.getElem_cons_succ, List.setIfInBounds_toArray, List.set_cons_zero, List.set_cons_succ]
          refine PreG.take (i := 1) (v := ?vv18) rfl (by kernel_rfl) (by kernel_rfl) (fun _ _ _ h => h) (Or.inl ⟨by rfl, ?hy18⟩) (by assumption) ?rest18
          case hy18 => intro w hSw; (try dsimp only at hSw); first | (go_simp; done) | (go_simp; with_reducible rfl)
          try simp only [Act.put, List.getElem_toArray, List.getElem_cons_zero, List.getElem_cons_succ, List.setIfInBounds_toArray, List.set_cons_zero, List.set_cons_succ]
          refine PreG.take (i := 2) (v := ?vv19) rfl (by kernel_rfl) (by kernel_rfl) (fun _ _ _ h => h) (Or.inl ⟨by rfl, ?hy19⟩) (by assumption) ?rest19
          case hy19 => intro w hSw; (try dsimp only at hSw); first | (go_simp; done) | (go_simp; with_reducible rfl)
          try simp only [Act.put, List.getElem_toArray, List.getElem_cons_zero, List.getElem_cons_succ, List.setIfInBounds_toArray, List.set_cons_zero, List.set_cons_succ]
          refine PreG.take (i := 3) (v := ?vv20) rfl (by kernel_rfl) (by kernel_rfl) (fun _ _ _ h => h) (Or.inl ⟨by rfl, ?hy20⟩) (by assumption) ?rest20
          case hy20 => intro w hSw; (try dsimp only at hSw); first | (go_simp; done) | (go_simp; with_reducible rfl)
          try simp only [Act.put, List.getElem_toArray, List.getElem_cons_zero, List.getElem_cons_succ, List.setIfInBounds_toArray, List.set_cons_zero, List.set_cons_succ]
          refine PreG.take (i := 4) (v := ?vv21) rfl (by kernel_rfl) (by kernel_rfl) (fun _ _ _ h => h) (Or.inl ⟨by rfl, ?hy21⟩) (by assumption) ?rest21
          case hy21 => intro w hSw; (try dsimp only at hSw); first | (go_simp; done) | (go_simp; with_reducible rfl)
          try simp only [Act.put, List.getElem_toArray, List.getElem_cons_zero, List.getElem_cons_succ, List.setIfInBounds_toArray, List.set_cons_zero, List.set_cons_succ]
          refine PreG.take (i := 5) (v := ?vv22) rfl (by kernel_rfl) (by kernel_rfl) (fun _ _ _ h => h) (Or.inl ⟨by rfl, ?hy22⟩) (by assumption) ?rest22
          case hy22 => intro w hSw; (try dsimp only at hSw); first | (go_simp; done) | (go_simp; with_reducible rfl)
          try simp only [Act.put, List.getElem_toArray, List.getElem_cons_zero, List.getElem_cons_succ, List.setIfInBounds_toArray, List.set_cons_zero, List.set_cons_succ]
          refine PreG.ready (rs := [6]) (by kernel_rfl) (by kernel_rfl) ?_
          refine AllPre.cons rfl (fun K hK => ?_) ?_
          · go_simp
            refine hK.out _ _ ?_ (fun hH1 => ?_)
            · exact ⟨(((S6.below (bl_alloc (Below.refl _ _) (.cells #[.int .i64 kd, .string ⟨t.toArray⟩, .int .i64 nm, .int .i64 al, .int .i64 ac] 116))).below (bl_drew (Below.refl _ _))).c 1).trans rfl, (((B6.below (bl_alloc (Below.refl _ _) (.cells #[.int .i64 kd, .string ⟨t.toArray⟩, .int .i64 nm, .int .i64 al, .int .i64 ac] 116))).below (bl_drew (Below.refl _ _))).cell 0).trans rfl, (((B6.below (bl_alloc (Below.refl _ _) (.cells #[.int .i64 kd, .string ⟨t.toArray⟩, .int .i64 nm, .int .i64 al, .int .i64 ac] 116))).below (bl_drew (Below.refl _ _))).cell 1).trans rfl, (((B6.below (bl_alloc (Below.refl _ _) (.cells #[.int .i64 kd, .string ⟨t.toArray⟩, .int .i64 nm, .int .i64 al, .int .i64 ac] 116))).below (bl_drew (Below.refl _ _))).cell 2).trans rfl, (((B6.below (bl_alloc (Below.refl _ _) (.cells #[.int .i64 kd, .string ⟨t.toArray⟩, .int .i64 nm, .int .i64 al, .int .i64 ac] 116))).below (bl_drew (Below.refl _ _))).cell 3).trans rfl, (((B6.below (bl_alloc (Below.refl _ _) (.cells #[.int .i64 kd, .string ⟨t.toArray⟩, .int .i64 nm, .int .i64 al, .int .i64 ac] 116))).below (bl_drew (Below.refl _ _))).cell 4).trans rfl⟩
            clear hK K hH0
            try simp only [Act.put, List.getElem_toArray, List.getElem_cons_zero, List.getElem_cons_succ, List.setIfInBounds_toArray, List.set_cons_zero, List.set_cons_succ]
            refine PreG.ready (rs := [7]) (by kernel_rfl) (by kernel_rfl) ?_
            refine AllPre.cons rfl (fun K hK => ?_) ?_
            · have P24 := ((S6.below (bl_alloc (Below.refl _ _) (.cells #[.int .i64 kd, .string ⟨t.toArray⟩, .int .i64 nm, .int .i64 al, .int .i64 ac] 116))).below (bl_drew (Below.refl _ _)))
              have Q24 := ((B6.below (bl_alloc (Below.refl _ _) (.cells #[.int .i64 kd, .string ⟨t.toArray⟩, .int .i64 nm, .int .i64 al, .int .i64 ac] 116))).below (bl_drew (Below.refl _ _)))
              have N24 : Blk (U.alloc (.cells #[.int .i64 kd, .string ⟨t.toArray⟩, .int .i64 nm, .int .i64 al, .int .i64 ac] 116)).drew (U.heap.size) 116 #[.int .i64 kd, .string ⟨t.toArray⟩, .int .i64 nm, .int .i64 al, .int .i64 ac] := ((Blk.new _ _ _).below (bl_drew (Below.refl _ _)))
              obtain ⟨D, d, X, hrun, S24, hX⟩ := P24.app hl (x := ⟨kd, t, nm, al, ac⟩) N24
              refine step_run rfl _ _ _ rfl hrun ?_
              have B24 := Q24.grown hX FR.2.2.1.symm
              clear P24 Q24 N24 hrun hX
              refine hK.out _ _ ?_ (fun hH2 => ?_)
              · exact ⟨(S24.c 1).trans rfl, (B24.cell 0).trans rfl, (B24.cell 1).trans rfl, (B24.cell 2).trans rfl, (B24.cell 3).trans rfl, (B24.cell 4).trans rfl⟩
              clear hK K hH1
              try simp only [Act.put, List.getElem_toArray, List.getElem_cons_zero, List.getElem_cons_succ, List.setIfInBounds_toArray, List.set_cons_zero, List.set_cons_succ]
              refine PreG.done (by kernel_rfl) ?_
              simp only [List.drop_succ_cons, List.drop_zero]
              clear hH2
              have z2 := S24.box.lt
              have f1 := S24.f 1
              have f4 := S24.f 4
              have c1 : X.cell? ⟨g, 1, none⟩ = some R := (S24.c 1).trans rfl
              have c4 : X.cell? ⟨g, 4, none⟩ = some (.int .i64 (f : Int)) := (S24.c 4).trans rfl
              go_wp2_with fail
              go_ret
              exact .inr ⟨trivial, rfl, _, (S24.put 1 _ rfl).put 4 _ rfl⟩
            exact AllPre.nil
          exact AllPre.nil
        exact AllPre.nil
      exact AllPre.nil
    refine AllPre.cons rfl (fun K hK => ?_) ?_
    · have FR := (hS.below (bl_drew (Below.refl _ _))).fresh
      go_simp
      refine hK.out _ _ ?_ (fun hH1 => ?_)
      · exact ⟨(((hS.below (bl_alloc (Below.refl _ _) (.cells #[.int .i64 0, .string ⟨#[]⟩, .int .i64 0, .int .i64 0, .int .i64 0] 116))).below (bl_drew (Below.refl _ _))).c 0).trans rfl, (((hS.below (bl_alloc (Below.refl _ _) (.cells #[.int .i64 0, .string ⟨#[]⟩, .int .i64 0, .int .i64 0, .int .i64 0] 116))).below (bl_drew (Below.refl _ _))).c 4).trans rfl⟩
      clear hK K hH0
      try simp only [Act.put, List.getElem_toArray, List.getElem_cons_zero, List.getElem_cons_succ, List.setIfInBounds_toArray, List.set_cons_zero, List.set_cons_succ]
      refine PreG.ready (rs := [10]) (by kernel_rfl) (by kernel_rfl) ?_
      refine AllPre.cons rfl (fun K hK => ?_) ?_
      · go_simp
        have P26 := ((hS.below (bl_alloc (Below.refl _ _) (.cells #[.int .i64 0, .string ⟨#[]⟩, .int .i64 0, .int .i64 0, .int .i64 0] 116))).below (bl_drew (Below.refl _ _)))
        have Q26 : Blk (w.alloc (.cells #[.int .i64 0, .string ⟨#[]⟩, .int .i64 0, .int .i64 0, .int .i64 0] 116)).drew (w.heap.size) 116 #[.int .i64 0, .string ⟨#[]⟩, .int .i64 0, .int .i64 0, .int .i64 0] := ((Blk.new _ _ _).below (bl_drew (Below.refl _ _)))
        (with_reducible refine (HT.out _ P26.bl).mono ?_); rintro e X26 ⟨rfl, hb26⟩
        go_wp2_with fail
        have S26 := P26.below hb26
        have B26 := Q26.below hb26
        clear P26 Q26 hb26
        refine hK.out _ _ ?_ (fun hH2 => ?_)
        · exact ⟨(S26.c 0).trans rfl, (S26.c 4).trans rfl⟩
        clear hK K hH1
        try simp only [Act.put, List.getElem_toArray, List.getElem_cons_zero, List.getElem_cons_succ, List.setIfInBounds_toArray, List.set_cons_zero, List.set_cons_succ]
        refine PreG.take (i := 11) (v := ?vv27) rfl (by kernel_rfl) (by kernel_rfl) (fun _ _ _ h => h) (Or.inl ⟨by rfl, ?hy27⟩) (by assumption) ?rest27
        case hy27 => intro w hSw; (try dsimp only at hSw); first | (go_simp; done) | (go_simp; with_reducible rfl)
        try simp only [Act.put, List.getElem_toArray, List.getElem_cons_zero, List.getElem_cons_succ, List.setIfInBounds_toArray, List.set_cons_zero, List.set_cons_succ]
        refine PreG.take (i := 12) (v := ?vv28) rfl (by kernel_rfl) (by kernel_rfl) (fun _ _ _ h => h) (Or.inl ⟨by rfl, ?hy28⟩) (by assumption) ?rest28
        case hy28 => intro w hSw; (try dsimp only at hSw); first | (go_simp; done) | (go_simp; with_reducible rfl)
        try simp only [Act.put, List.getElem_toArray, List.getElem_cons_zero, List.getElem_cons_succ, List.setIfInBounds_toArray, List.set_cons_zero, List.set_cons_succ]
        refine PreG.take (i := 13) (v := ?vv29) rfl (by kernel_rfl) (by kernel_rfl) (fun _ _ _ h => h) (Or.inl ⟨by rfl, ?hy29⟩) (by assumption) ?rest29
        case hy29 => intro w hSw; (try dsimp only at hSw); first | (go_simp; done) | (go_simp; with_reducible rfl)
        try simp only [Act.put, List.getElem_toArray, List.getElem_cons_zero, List.getElem_cons_succ, List.setIfInBounds_toArray, List.set_cons_zero, List.set_cons_succ]
        refine PreG.ready (rs := [15]) (by kernel_rfl) (by kernel_rfl) ?_
        refine AllPre.cons rfl (fun K hK => ?_) ?_
        · have P30 := S26
          have Q30 : Blk X26 (w.heap.size) 116 #[.int .i64 0, .string ⟨#[]⟩, .int .i64 0, .int .i64 0, .int .i64 0] := B26
          have q30_z : w.heap.size < X26.heap.size := Q30.lt
          have q30_c0 : X26.cell? ⟨w.heap.size, 0, none⟩ = some (.int .i64 0) := (Q30.cell 0).trans rfl
          have q30_f0 := Q30.frozen 0
          have q30_c1 : X26.cell? ⟨w.heap.size, 1, none⟩ = some (.string ⟨#[]⟩) := (Q30.cell 1).trans rfl
          have q30_f1 := Q30.frozen 1
          have q30_c2 : X26.cell? ⟨w.heap.size, 2, none⟩ = some (.int .i64 0) := (Q30.cell 2).trans rfl
          have q30_f2 := Q30.frozen 2
          have q30_c3 : X26.cell? ⟨w.heap.size, 3, none⟩ = some (.int .i64 0) := (Q30.cell 3).trans rfl
          have q30_f3 := Q30.frozen 3
          have q30_c4 : X26.cell? ⟨w.heap.size, 4, none⟩ = some (.int .i64 0) := (Q30.cell 4).trans rfl
          have q30_f4 := Q30.frozen 4
          go_simp
          have S30 := P30.far5 Q30 FR (a' := .int .i64 kd) (b' := .string ⟨t.toArray⟩) (c' := .int .i64 nm) (d' := .int .i64 0) (e' := .int .i64 0)
          have B30 : Blk (((((X26.setCell ⟨w.heap.size, 0, none⟩ (.int .i64 kd)).setCell ⟨w.heap.size, 1, none⟩ (.string ⟨t.toArray⟩)).setCell ⟨w.heap.size, 2, none⟩ (.int .i64 nm)).setCell ⟨w.heap.size, 3, none⟩ (.int .i64 0)).setCell ⟨w.heap.size, 4, none⟩ (.int .i64 0)) (w.heap.size) 116 #[.int .i64 kd, .string ⟨t.toArray⟩, .int .i64 nm, .int .i64 0, .int .i64 0] := Q30.put5
          clear P30 Q30 q30_z q30_c0 q30_f0 q30_c1 q30_f1 q30_c2 q30_f2 q30_c3 q30_f3 q30_c4 q30_f4
          generalize (((((X26.setCell ⟨w.heap.size, 0, none⟩ (.int .i64 kd)).setCell ⟨w.heap.size, 1, none⟩ (.string ⟨t.toArray⟩)).setCell ⟨w.heap.size, 2, none⟩ (.int .i64 nm)).setCell ⟨w.heap.size, 3, none⟩ (.int .i64 0)).setCell ⟨w.heap.size, 4, none⟩ (.int .i64 0)) = V30 at S30 B30 ⊢
          refine hK.out _ _ ?_ (fun hH3 => ?_)
          · exact ⟨(S30.c 0).trans rfl, (S30.c 4).trans rfl⟩
          clear hK K hH2
          try simp only [Act.put, List.getElem_toArray, List.getElem_cons_zero, List.getElem_cons_succ, List.setIfInBounds_toArray, List.set_cons_zero, List.set_cons_succ]
          refine PreG.done (by kernel_rfl) ?_
          simp only [List.drop_succ_cons, List.drop_zero]
          clear hH3
          have c5 : V30.cell? ⟨g, 5, none⟩ = some (.int .i64 al) := (S30.c 5).trans rfl
          have c6 : V30.cell? ⟨g, 6, none⟩ = some (.int .i64 ac) := (S30.c 6).trans rfl
          have z2 := S30.box.lt
          have t_z : w.heap.size < V30.heap.size := B30.lt
          have t_c0 : V30.cell? ⟨w.heap.size, 0, none⟩ = some (.int .i64 kd) := (B30.cell 0).trans rfl
          have t_f0 := B30.frozen 0
          have t_c1 : V30.cell? ⟨w.heap.size, 1, none⟩ = some (.string ⟨t.toArray⟩) := (B30.cell 1).trans rfl
          have t_f1 := B30.frozen 1
          have t_c2 : V30.cell? ⟨w.heap.size, 2, none⟩ = some (.int .i64 nm) := (B30.cell 2).trans rfl
          have t_f2 := B30.frozen 2
          have t_c3 : V30.cell? ⟨w.heap.size, 3, none⟩ = some (.int .i64 0) := (B30.cell 3).trans rfl
          have t_f3 := B30.frozen 3
          have t_c4 : V30.cell? ⟨w.heap.size, 4, none⟩ = some (.int .i64 0) := (B30.cell 4).trans rfl
          have t_f4 := B30.frozen 4
          go_wp2_with fail
          have S6 := (S30.far B30 FR.2.2.2 FR.1 FR.2.1 FR.2.2.1 3 (.int .i64 al)).far (B30.put 3 (.int .i64 al) rfl) FR.2.2.2 FR.1 FR.2.1 FR.2.2.1 4 (.int .i64 ac)
          have B6 : Blk ((V30.setCell ⟨w.heap.size, 3, none⟩ (.int .i64 al)).setCell ⟨w.heap.size, 4, none⟩ (.int .i64 ac)) (w.heap.size) 116 #[.int .i64 kd, .string ⟨t.toArray⟩, .int .i64 nm, .int .i64 al, .int .i64 ac] := (B30.put 3 _ rfl).put 4 _ rfl
          clear c5 c6 z2 t_z t_c0 t_f0 t_c1 t_f1 t_c2 t_f2 t_c3 t_f3 t_c4 t_f4
          generalize (V30.setCell ⟨w.heap.size, 3, none⟩ (.int .i64 al)).setCell ⟨w.heap.size, 4, none⟩ (.int .i64 ac) = U at S6 B6 ⊢
          refine wp_region_pre (S := fun w' => w'.cell? ⟨g, 1, none⟩ = some R ∧ w'.cell? ⟨w.heap.size, 0, none⟩ = some (.int .i64 kd) ∧ w'.cell? ⟨w.heap.size, 1, none⟩ = some (.string ⟨t.toArray⟩) ∧ w'.cell? ⟨w.heap.size, 2, none⟩ = some (.int .i64 nm) ∧ w'.cell? ⟨w.heap.size, 3, none⟩ = some (.int .i64 al) ∧ w'.cell? ⟨w.heap.size, 4, none⟩ = some (.int .i64 ac)) 8 (by kernel_rfl) (by kernel_rfl) ?_ (fun hH0 => ?_)
          · exact ⟨((S6.below (bl_drew (Below.refl _ _))).c 1).trans rfl, ((B6.below (bl_drew (Below.refl _ _))).cell 0).trans rfl, ((B6.below (bl_drew (Below.refl _ _))).cell 1).trans rfl, ((B6.below (bl_drew (Below.refl _ _))).cell 2).trans rfl, ((B6.below (bl_drew (Below.refl _ _))).cell 3).trans rfl, ((B6.below (bl_drew (Below.refl _ _))).cell 4).trans rfl⟩
          refine PreG.take (i := 0) (v := ?vv31) rfl (by kernel_rfl) (by kernel_rfl) (fun _ _ _ h => h) (Or.inl ⟨by rfl, ?hy31⟩) (by assumption) ?rest31
          case hy31 => intro w hSw; (try dsimp only at hSw); first | (go_simp; done) | (go_simp; with_reducible rfl)
          try simp only [Act.put, List.getElem_toArray, List.getElem_cons_zero, List.getElem_cons_succ, List.setIfInBounds_toArray, List.set_cons_zero, List.set_cons_succ]
          refine PreG.take (i := 1) (v := ?vv32) rfl (by kernel_rfl) (by kernel_rfl) (fun _ _ _ h => h) (Or.inl ⟨by rfl, ?hy32⟩) (by assumption) ?rest32
          case hy32 => intro w hSw; (try dsimp only at hSw); first | (go_simp; done) | (go_simp; with_reducible rfl)
          try simp only [Act.put, List.getElem_toArray, List.getElem_cons_zero, List.getElem_cons_succ, List.setIfInBounds_toArray, List.set_cons_zero, List.set_cons_succ]
          refine PreG.take (i := 2) (v := ?vv33) rfl (by kernel_rfl) (by kernel_rfl) (fun _ _ _ h => h) (Or.inl ⟨by rfl, ?hy33⟩) (by assumption) ?rest33
          case hy33 => intro w hSw; (try dsimp only at hSw); first | (go_simp; done) | (go_simp; with_reducible rfl)
          try simp only [Act.put, List.getElem_toArray, List.getElem_cons_zero, List.getElem_cons_succ, List.setIfInBounds_toArray, List.set_cons_zero, List.set_cons_succ]
          refine PreG.take (i := 3) (v := ?vv34) rfl (by kernel_rfl) (by kernel_rfl) (fun _ _ _ h => h) (Or.inl ⟨by rfl, ?hy34⟩) (by assumption) ?rest34
          case hy34 => intro w hSw; (try dsimp only at hSw); first | (go_simp; done) | (go_simp; with_reducible rfl)
          try simp only [Act.put, List.getElem_toArray, List.getElem_cons_zero, List.getElem_cons_succ, List.setIfInBounds_toArray, List.set_cons_zero, List.set_cons_succ]
          refine PreG.take (i := 4) (v := ?vv35) rfl (by kernel_rfl) (by kernel_rfl) (fun _ _ _ h => h) (Or.inl ⟨by rfl, ?hy35⟩) (by assumption) ?rest35
          case hy35 => intro w hSw; (try dsimp only at hSw); first | (go_simp; done) | (go_simp; with_reducible rfl)
          try simp only [Act.put, List.getElem_toArray, List.getElem_cons_zero, List.getElem_cons_succ, List.setIfInBounds_toArray, List.set_cons_zero, List.set_cons_succ]
          refine PreG.take (i := 5) (v := ?vv36) rfl (by kernel_rfl) (by kernel_rfl) (fun _ _ _ h => h) (Or.inl ⟨by rfl, ?hy36⟩) (by assumption) ?rest36
          case hy36 => intro w hSw; (try dsimp only at hSw); first | (go_simp; done) | (go_simp; with_reducible rfl)
          try simp only [Act.put, List.getElem_toArray, List.getElem_cons_zero, List.getElem_cons_succ, List.setIfInBounds_toArray, List.set_cons_zero, List.set_cons_succ]
          refine PreG.ready (rs := [6]) (by kernel_rfl) (by kernel_rfl) ?_
          refine AllPre.cons rfl (fun K hK => ?_) ?_
          · go_simp
            refine hK.out _ _ ?_ (fun hH1 => ?_)
            · exact ⟨(((S6.below (bl_alloc (Below.refl _ _) (.cells #[.int .i64 kd, .string ⟨t.toArray⟩, .int .i64 nm, .int .i64 al, .int .i64 ac] 116))).below (bl_drew (Below.refl _ _))).c 1).trans rfl, (((B6.below (bl_alloc (Below.refl _ _) (.cells #[.int .i64 kd, .string ⟨t.toArray⟩, .int .i64 nm, .int .i64 al, .int .i64 ac] 116))).below (bl_drew (Below.refl _ _))).cell 0).trans rfl, (((B6.below (bl_alloc (Below.refl _ _) (.cells #[.int .i64 kd, .string ⟨t.toArray⟩, .int .i64 nm, .int .i64 al, .int .i64 ac] 116))).below (bl_drew (Below.refl _ _))).cell 1).trans rfl, (((B6.below (bl_alloc (Below.refl _ _) (.cells #[.int .i64 kd, .string ⟨t.toArray⟩, .int .i64 nm, .int .i64 al, .int .i64 ac] 116))).below (bl_drew (Below.refl _ _))).cell 2).trans rfl, (((B6.below (bl_alloc (Below.refl _ _) (.cells #[.int .i64 kd, .string ⟨t.toArray⟩, .int .i64 nm, .int .i64 al, .int .i64 ac] 116))).below (bl_drew (Below.refl _ _))).cell 3).trans rfl, (((B6.below (bl_alloc (Below.refl _ _) (.cells #[.int .i64 kd, .string ⟨t.toArray⟩, .int .i64 nm, .int .i64 al, .int .i64 ac] 116))).below (bl_drew (Below.refl _ _))).cell 4).trans rfl⟩
            clear hK K hH0
            try simp only [Act.put, List.getElem_toArray, List.getElem_cons_zero, List.getElem_cons_succ, List.setIfInBounds_toArray, List.set_cons_zero, List.set_cons_succ]
            refine PreG.ready (rs := [7]) (by kernel_rfl) (by kernel_rfl) ?_
            refine AllPre.cons rfl (fun K hK => ?_) ?_
            · have P38 := ((S6.below (bl_alloc (Below.refl _ _) (.cells #[.int .i64 kd, .string ⟨t.toArray⟩, .int .i64 nm, .int .i64 al, .int .i64 ac] 116))).below (bl_drew (Below.refl _ _)))
              have Q38 := ((B6.below (bl_alloc (Below.refl _ _) (.cells #[.int .i64 kd, .string ⟨t.toArray⟩, .int .i64 nm, .int .i64 al, .int .i64 ac] 116))).below (bl_drew (Below.refl _ _)))
              have N38 : Blk (U.alloc (.cells #[.int .i64 kd, .string ⟨t.toArray⟩, .int .i64 nm, .int .i64 al, .int .i64 ac] 116)).drew (U.heap.size) 116 #[.int .i64 kd, .string ⟨t.toArray⟩, .int .i64 nm, .int .i64 al, .int .i64 ac] := ((Blk.new _ _ _).below (bl_drew (Below.refl _ _)))
              obtain ⟨D, d, X, hrun, S38, hX⟩ := P38.app hl (x := ⟨kd, t, nm, al, ac⟩) N38
              refine step_run rfl _ _ _ rfl hrun ?_
              have B38 := Q38.grown hX FR.2.2.1.symm
              clear P38 Q38 N38 hrun hX
              refine hK.out _ _ ?_ (fun hH2 => ?_)
              · exact ⟨(S38.c 1).trans rfl, (B38.cell 0).trans rfl, (B38.cell 1).trans rfl, (B38.cell 2).trans rfl, (B38.cell 3).trans rfl, (B38.cell 4).trans rfl⟩
              clear hK K hH1
              try simp only [Act.put, List.getElem_toArray, List.getElem_cons_zero, List.getElem_cons_succ, List.setIfInBounds_toArray, List.set_cons_zero, List.set_cons_succ]
              refine PreG.done (by kernel_rfl) ?_
              simp only [List.drop_succ_cons, List.drop_zero]
              clear hH2
              have z2 := S38.box.lt
              have f1 := S38.f 1
              have f4 := S38.f 4
              have c1 : X.cell? ⟨g, 1, none⟩ = some R := (S38.c 1).trans rfl
              have c4 : X.cell? ⟨g, 4, none⟩ = some (.int .i64 (f : Int)) := (S38.c 4).trans rfl
              go_wp2_with fail
              go_ret
              exact .inr ⟨trivial, rfl, _, (S38.put 1 _ rfl).put 4 _ rfl⟩
            exact AllPre.nil
          exact AllPre.nil
        exact AllPre.nil
      exact AllPre.nil
    exact AllPre.nil
  · rw [if_neg he] at HT
    have he' : ¬ (er == 0) = true := by simpa using he
    go_enter Tryd.func50, Tryd.ntmps50
    go_wp2_with fail
    refine wp_region_pre (S := fun w' => w'.cell? ⟨g, 0, none⟩ = some (.string s) ∧ w'.cell? ⟨g, 4, none⟩ = some (.int .i64 (f : Int))) 16 (by kernel_rfl) (by kernel_rfl) ?_ (fun hH0 => ?_)
    · exact ⟨((hS.below (bl_drew (Below.refl _ _))).c 0).trans rfl, ((hS.below (bl_drew (Below.refl _ _))).c 4).trans rfl⟩
    refine PreG.take (i := 0) (v := ?vv39) rfl (by kernel_rfl) (by kernel_rfl) (fun _ _ _ h => h) (Or.inl ⟨by rfl, ?hy39⟩) (by assumption) ?rest39
    case hy39 => intro w hSw; (try dsimp only at hSw); first | (go_simp; done) | (go_simp; with_reducible rfl)
    try simp only [Act.put, List.getElem_toArray, List.getElem_cons_zero, List.getElem_cons_succ, List.setIfInBounds_toArray, List.set_cons_zero, List.set_cons_succ]
    refine PreG.take (i := 1) (v := ?vv40) rfl (by kernel_rfl) (by kernel_rfl) (fun _ _ _ h => h) (Or.inl ⟨by rfl, ?hy40⟩) (by assumption) ?rest40
    case hy40 => intro w hSw; (try dsimp only at hSw); first | (go_simp; done) | (go_simp; with_reducible rfl)
    try simp only [Act.put, List.getElem_toArray, List.getElem_cons_zero, List.getElem_cons_succ, List.setIfInBounds_toArray, List.set_cons_zero, List.set_cons_succ]
    refine PreG.take (i := 2) (v := ?vv41) rfl (by kernel_rfl) (by kernel_rfl) (fun _ _ _ h => h) (Or.inl ⟨by rfl, ?hy41⟩) (by assumption) ?rest41
    case hy41 => intro w hSw; (try dsimp only at hSw); first | (go_simp; done) | (go_simp; with_reducible rfl)
    try simp only [Act.put, List.getElem_toArray, List.getElem_cons_zero, List.getElem_cons_succ, List.setIfInBounds_toArray, List.set_cons_zero, List.set_cons_succ]
    refine PreG.take (i := 3) (v := ?vv42) rfl (by kernel_rfl) (by kernel_rfl) (fun _ _ _ h => h) (Or.inl ⟨by rfl, ?hy42⟩) (by assumption) ?rest42
    case hy42 => intro w hSw; (try dsimp only at hSw); first | (go_simp; done) | (go_simp; with_reducible rfl)
    try simp only [Act.put, List.getElem_toArray, List.getElem_cons_zero, List.getElem_cons_succ, List.setIfInBounds_toArray, List.set_cons_zero, List.set_cons_succ]
    refine PreG.take (i := 4) (v := ?vv43) rfl (by kernel_rfl) (by kernel_rfl) (fun _ _ _ h => h) (Or.inl ⟨by rfl, ?hy43⟩) (by assumption) ?rest43
    case hy43 => intro w hSw; (try dsimp only at hSw); first | (go_simp; done) | (go_simp; with_reducible rfl)
    try simp only [Act.put, List.getElem_toArray, List.getElem_cons_zero, List.getElem_cons_succ, List.setIfInBounds_toArray, List.set_cons_zero, List.set_cons_succ]
    refine PreG.take (i := 5) (v := ?vv44) rfl (by kernel_rfl) (by kernel_rfl) (fun _ _ _ h => h) (Or.inl ⟨by rfl, ?hy44⟩) (by assumption) ?rest44
    case hy44 => intro w hSw; (try dsimp only at hSw); first | (go_simp; done) | (go_simp; with_reducible rfl)
    try simp only [Act.put, List.getElem_toArray, List.getElem_cons_zero, List.getElem_cons_succ, List.setIfInBounds_toArray, List.set_cons_zero, List.set_cons_succ]
    refine PreG.take (i := 6) (v := ?vv45) rfl (by kernel_rfl) (by kernel_rfl) (fun _ _ _ h => h) (Or.inl ⟨by rfl, ?hy45⟩) (by assumption) ?rest45
    case hy45 => intro w hSw; (try dsimp only at hSw); first | (go_simp; done) | (go_simp; with_reducible rfl)
    try simp only [Act.put, List.getElem_toArray, List.getElem_cons_zero, List.getElem_cons_succ, List.setIfInBounds_toArray, List.set_cons_zero, List.set_cons_succ]
    refine PreG.take (i := 7) (v := ?vv46) rfl (by kernel_rfl) (by kernel_rfl) (fun _ _ _ h => h) (Or.inl ⟨by rfl, ?hy46⟩) (by assumption) ?rest46
    case hy46 => intro w hSw; (try dsimp only at hSw); first | (go_simp; done) | (go_simp; with_reducible rfl)
    try simp only [Act.put, List.getElem_toArray, List.getElem_cons_zero, List.getElem_cons_succ, List.setIfInBounds_toArray, List.set_cons_zero, List.set_cons_succ]
    refine PreG.take (i := 8) (v := ?vv47) rfl (by kernel_rfl) (by kernel_rfl) (fun _ _ _ h => h) (Or.inl ⟨by rfl, ?hy47⟩) (by assumption) ?rest47
    case hy47 => intro w hSw; (try dsimp only at hSw); first | (go_simp; done) | (go_simp; with_reducible rfl)
    try simp only [Act.put, List.getElem_toArray, List.getElem_cons_zero, List.getElem_cons_succ, List.setIfInBounds_toArray, List.set_cons_zero, List.set_cons_succ]
    refine PreG.take (i := 9) (v := ?vv48) rfl (by kernel_rfl) (by kernel_rfl) (fun _ _ _ h => h) (Or.inl ⟨by rfl, ?hy48⟩) (by assumption) ?rest48
    case hy48 => intro w hSw; (try dsimp only at hSw); first | (go_simp; done) | (go_simp; with_reducible rfl)
    try simp only [Act.put, List.getElem_toArray, List.getElem_cons_zero, List.getElem_cons_succ, List.setIfInBounds_toArray, List.set_cons_zero, List.set_cons_succ]
    refine PreG.ready (rs := [10, 14]) (by kernel_rfl) (by kernel_rfl) ?_
    refine AllPre.cons rfl (fun K hK => ?_) ?_
    · go_simp
      have P49 := (hS.below (bl_drew (Below.refl _ _)))
      (with_reducible refine (HT.out _ P49.bl).mono ?_); rintro e X49 ⟨rfl, hb49⟩
      go_wp2_with fail
      have S49 := P49.below hb49
      clear P49 hb49
      refine hK.out _ _ ?_ (fun hH1 => ?_)
      · exact ⟨(S49.c 0).trans rfl, (S49.c 4).trans rfl⟩
      clear hK K hH0
      try simp only [Act.put, List.getElem_toArray, List.getElem_cons_zero, List.getElem_cons_succ, List.setIfInBounds_toArray, List.set_cons_zero, List.set_cons_succ]
      refine PreG.take (i := 11) (v := ?vv50) rfl (by kernel_rfl) (by kernel_rfl) (fun _ _ _ h => h) (Or.inl ⟨by rfl, ?hy50⟩) (by assumption) ?rest50
      case hy50 => intro w hSw; (try dsimp only at hSw); first | (go_simp; done) | (go_simp; with_reducible rfl)
      try simp only [Act.put, List.getElem_toArray, List.getElem_cons_zero, List.getElem_cons_succ, List.setIfInBounds_toArray, List.set_cons_zero, List.set_cons_succ]
      refine PreG.take (i := 12) (v := ?vv51) rfl (by kernel_rfl) (by kernel_rfl) (fun _ _ _ h => h) (Or.inl ⟨by rfl, ?hy51⟩) (by assumption) ?rest51
      case hy51 => intro w hSw; (try dsimp only at hSw); first | (go_simp; done) | (go_simp; with_reducible rfl)
      try simp only [Act.put, List.getElem_toArray, List.getElem_cons_zero, List.getElem_cons_succ, List.setIfInBounds_toArray, List.set_cons_zero, List.set_cons_succ]
      refine PreG.take (i := 13) (v := ?vv52) rfl (by kernel_rfl) (by kernel_rfl) (fun _ _ _ h => h) (Or.inl ⟨by rfl, ?hy52⟩) (by assumption) ?rest52
      case hy52 => intro w hSw; (try dsimp only at hSw); first | (go_simp; done) | (go_simp; with_reducible rfl)
      try simp only [Act.put, List.getElem_toArray, List.getElem_cons_zero, List.getElem_cons_succ, List.setIfInBounds_toArray, List.set_cons_zero, List.set_cons_succ]
      refine PreG.ready (rs := [14]) (by kernel_rfl) (by kernel_rfl) ?_
      refine AllPre.cons rfl (fun K hK => ?_) ?_
      · have FR := S49.fresh
        go_simp
        refine hK.out _ _ ?_ (fun hH2 => ?_)
        · exact ⟨((S49.below (bl_alloc (Below.refl _ _) (.cells #[.int .i64 0, .string ⟨#[]⟩, .int .i64 0, .int .i64 0, .int .i64 0] 116))).c 0).trans rfl, ((S49.below (bl_alloc (Below.refl _ _) (.cells #[.int .i64 0, .string ⟨#[]⟩, .int .i64 0, .int .i64 0, .int .i64 0] 116))).c 4).trans rfl⟩
        clear hK K hH1
        try simp only [Act.put, List.getElem_toArray, List.getElem_cons_zero, List.getElem_cons_succ, List.setIfInBounds_toArray, List.set_cons_zero, List.set_cons_succ]
        refine PreG.ready (rs := [15]) (by kernel_rfl) (by kernel_rfl) ?_
        refine AllPre.cons rfl (fun K hK => ?_) ?_
        · have P54 := (S49.below (bl_alloc (Below.refl _ _) (.cells #[.int .i64 0, .string ⟨#[]⟩, .int .i64 0, .int .i64 0, .int .i64 0] 116)))
          have Q54 : Blk (X49.alloc (.cells #[.int .i64 0, .string ⟨#[]⟩, .int .i64 0, .int .i64 0, .int .i64 0] 116)) (X49.heap.size) 116 #[.int .i64 0, .string ⟨#[]⟩, .int .i64 0, .int .i64 0, .int .i64 0] := (Blk.new _ _ _)
          generalize (X49.alloc (.cells #[.int .i64 0, .string ⟨#[]⟩, .int .i64 0, .int .i64 0, .int .i64 0] 116)) = Y54 at P54 Q54 ⊢
          have q54_z : X49.heap.size < Y54.heap.size := Q54.lt
          have q54_c0 : Y54.cell? ⟨X49.heap.size, 0, none⟩ = some (.int .i64 0) := (Q54.cell 0).trans rfl
          have q54_f0 := Q54.frozen 0
          have q54_c1 : Y54.cell? ⟨X49.heap.size, 1, none⟩ = some (.string ⟨#[]⟩) := (Q54.cell 1).trans rfl
          have q54_f1 := Q54.frozen 1
          have q54_c2 : Y54.cell? ⟨X49.heap.size, 2, none⟩ = some (.int .i64 0) := (Q54.cell 2).trans rfl
          have q54_f2 := Q54.frozen 2
          have q54_c3 : Y54.cell? ⟨X49.heap.size, 3, none⟩ = some (.int .i64 0) := (Q54.cell 3).trans rfl
          have q54_f3 := Q54.frozen 3
          have q54_c4 : Y54.cell? ⟨X49.heap.size, 4, none⟩ = some (.int .i64 0) := (Q54.cell 4).trans rfl
          have q54_f4 := Q54.frozen 4
          go_simp
          have S54 := P54.far5 Q54 FR (a' := .int .i64 kd) (b' := .string ⟨#[]⟩) (c' := .int .i64 nm) (d' := .int .i64 0) (e' := .int .i64 0)
          have B54 : Blk (((((Y54.setCell ⟨X49.heap.size, 0, none⟩ (.int .i64 kd)).setCell ⟨X49.heap.size, 1, none⟩ (.string ⟨#[]⟩)).setCell ⟨X49.heap.size, 2, none⟩ (.int .i64 nm)).setCell ⟨X49.heap.size, 3, none⟩ (.int .i64 0)).setCell ⟨X49.heap.size, 4, none⟩ (.int .i64 0)) (X49.heap.size) 116 #[.int .i64 kd, .string ⟨#[]⟩, .int .i64 nm, .int .i64 0, .int .i64 0] := Q54.put5
          clear P54 Q54 q54_z q54_c0 q54_f0 q54_c1 q54_f1 q54_c2 q54_f2 q54_c3 q54_f3 q54_c4 q54_f4
          generalize (((((Y54.setCell ⟨X49.heap.size, 0, none⟩ (.int .i64 kd)).setCell ⟨X49.heap.size, 1, none⟩ (.string ⟨#[]⟩)).setCell ⟨X49.heap.size, 2, none⟩ (.int .i64 nm)).setCell ⟨X49.heap.size, 3, none⟩ (.int .i64 0)).setCell ⟨X49.heap.size, 4, none⟩ (.int .i64 0)) = V54 at S54 B54 ⊢
          refine hK.out _ _ ?_ (fun hH3 => ?_)
          · exact ⟨(S54.c 0).trans rfl, (S54.c 4).trans rfl⟩
          clear hK K hH2
          try simp only [Act.put, List.getElem_toArray, List.getElem_cons_zero, List.getElem_cons_succ, List.setIfInBounds_toArray, List.set_cons_zero, List.set_cons_succ]
          refine PreG.done (by kernel_rfl) ?_
          simp only [List.drop_succ_cons, List.drop_zero]
          clear hH3
          go_wp2_with fail
          go_ret
          exact .inl ⟨he, rfl, R, _, S54⟩
        exact AllPre.nil
      exact AllPre.nil
    refine AllPre.cons rfl (fun K hK => ?_) ?_
    · have FR := (hS.below (bl_drew (Below.refl _ _))).fresh
      go_simp
      refine hK.out _ _ ?_ (fun hH1 => ?_)
      · exact ⟨(((hS.below (bl_alloc (Below.refl _ _) (.cells #[.int .i64 0, .string ⟨#[]⟩, .int .i64 0, .int .i64 0, .int .i64 0] 116))).below (bl_drew (Below.refl _ _))).c 0).trans rfl, (((hS.below (bl_alloc (Below.refl _ _) (.cells #[.int .i64 0, .string ⟨#[]⟩, .int .i64 0, .int .i64 0, .int .i64 0] 116))).below (bl_drew (Below.refl _ _))).c 4).trans rfl⟩
      clear hK K hH0
      try simp only [Act.put, List.getElem_toArray, List.getElem_cons_zero, List.getElem_cons_succ, List.setIfInBounds_toArray, List.set_cons_zero, List.set_cons_succ]
      refine PreG.ready (rs := [10]) (by kernel_rfl) (by kernel_rfl) ?_
      refine AllPre.cons rfl (fun K hK => ?_) ?_
      · go_simp
        have P56 := ((hS.below (bl_alloc (Below.refl _ _) (.cells #[.int .i64 0, .string ⟨#[]⟩, .int .i64 0, .int .i64 0, .int .i64 0] 116))).below (bl_drew (Below.refl _ _)))
        have Q56 : Blk (w.alloc (.cells #[.int .i64 0, .string ⟨#[]⟩, .int .i64 0, .int .i64 0, .int .i64 0] 116)).drew (w.heap.size) 116 #[.int .i64 0, .string ⟨#[]⟩, .int .i64 0, .int .i64 0, .int .i64 0] := ((Blk.new _ _ _).below (bl_drew (Below.refl _ _)))
        (with_reducible refine (HT.out _ P56.bl).mono ?_); rintro e X56 ⟨rfl, hb56⟩
        go_wp2_with fail
        have S56 := P56.below hb56
        have B56 := Q56.below hb56
        clear P56 Q56 hb56
        refine hK.out _ _ ?_ (fun hH2 => ?_)
        · exact ⟨(S56.c 0).trans rfl, (S56.c 4).trans rfl⟩
        clear hK K hH1
        try simp only [Act.put, List.getElem_toArray, List.getElem_cons_zero, List.getElem_cons_succ, List.setIfInBounds_toArray, List.set_cons_zero, List.set_cons_succ]
        refine PreG.take (i := 11) (v := ?vv57) rfl (by kernel_rfl) (by kernel_rfl) (fun _ _ _ h => h) (Or.inl ⟨by rfl, ?hy57⟩) (by assumption) ?rest57
        case hy57 => intro w hSw; (try dsimp only at hSw); first | (go_simp; done) | (go_simp; with_reducible rfl)
        try simp only [Act.put, List.getElem_toArray, List.getElem_cons_zero, List.getElem_cons_succ, List.setIfInBounds_toArray, List.set_cons_zero, List.set_cons_succ]
        refine PreG.take (i := 12) (v := ?vv58) rfl (by kernel_rfl) (by kernel_rfl) (fun _ _ _ h => h) (Or.inl ⟨by rfl, ?hy58⟩) (by assumption) ?rest58
        case hy58 => intro w hSw; (try dsimp only at hSw); first | (go_simp; done) | (go_simp; with_reducible rfl)
        try simp only [Act.put, List.getElem_toArray, List.getElem_cons_zero, List.getElem_cons_succ, List.setIfInBounds_toArray, List.set_cons_zero, List.set_cons_succ]
        refine PreG.take (i := 13) (v := ?vv59) rfl (by kernel_rfl) (by kernel_rfl) (fun _ _ _ h => h) (Or.inl ⟨by rfl, ?hy59⟩) (by assumption) ?rest59
        case hy59 => intro w hSw; (try dsimp only at hSw); first | (go_simp; done) | (go_simp; with_reducible rfl)
        try simp only [Act.put, List.getElem_toArray, List.getElem_cons_zero, List.getElem_cons_succ, List.setIfInBounds_toArray, List.set_cons_zero, List.set_cons_succ]
        refine PreG.ready (rs := [15]) (by kernel_rfl) (by kernel_rfl) ?_
        refine AllPre.cons rfl (fun K hK => ?_) ?_
        · have P60 := S56
          have Q60 : Blk X56 (w.heap.size) 116 #[.int .i64 0, .string ⟨#[]⟩, .int .i64 0, .int .i64 0, .int .i64 0] := B56
          have q60_z : w.heap.size < X56.heap.size := Q60.lt
          have q60_c0 : X56.cell? ⟨w.heap.size, 0, none⟩ = some (.int .i64 0) := (Q60.cell 0).trans rfl
          have q60_f0 := Q60.frozen 0
          have q60_c1 : X56.cell? ⟨w.heap.size, 1, none⟩ = some (.string ⟨#[]⟩) := (Q60.cell 1).trans rfl
          have q60_f1 := Q60.frozen 1
          have q60_c2 : X56.cell? ⟨w.heap.size, 2, none⟩ = some (.int .i64 0) := (Q60.cell 2).trans rfl
          have q60_f2 := Q60.frozen 2
          have q60_c3 : X56.cell? ⟨w.heap.size, 3, none⟩ = some (.int .i64 0) := (Q60.cell 3).trans rfl
          have q60_f3 := Q60.frozen 3
          have q60_c4 : X56.cell? ⟨w.heap.size, 4, none⟩ = some (.int .i64 0) := (Q60.cell 4).trans rfl
          have q60_f4 := Q60.frozen 4
          go_simp
          have S60 := P60.far5 Q60 FR (a' := .int .i64 kd) (b' := .string ⟨#[]⟩) (c' := .int .i64 nm) (d' := .int .i64 0) (e' := .int .i64 0)
          have B60 : Blk (((((X56.setCell ⟨w.heap.size, 0, none⟩ (.int .i64 kd)).setCell ⟨w.heap.size, 1, none⟩ (.string ⟨#[]⟩)).setCell ⟨w.heap.size, 2, none⟩ (.int .i64 nm)).setCell ⟨w.heap.size, 3, none⟩ (.int .i64 0)).setCell ⟨w.heap.size, 4, none⟩ (.int .i64 0)) (w.heap.size) 116 #[.int .i64 kd, .string ⟨#[]⟩, .int .i64 nm, .int .i64 0, .int .i64 0] := Q60.put5
          clear P60 Q60 q60_z q60_c0 q60_f0 q60_c1 q60_f1 q60_c2 q60_f2 q60_c3 q60_f3 q60_c4 q60_f4
          generalize (((((X56.setCell ⟨w.heap.size, 0, none⟩ (.int .i64 kd)).setCell ⟨w.heap.size, 1, none⟩ (.string ⟨#[]⟩)).setCell ⟨w.heap.size, 2, none⟩ (.int .i64 nm)).setCell ⟨w.heap.size, 3, none⟩ (.int .i64 0)).setCell ⟨w.heap.size, 4, none⟩ (.int .i64 0)) = V60 at S60 B60 ⊢
          refine hK.out _ _ ?_ (fun hH3 => ?_)
          · exact ⟨(S60.c 0).trans rfl, (S60.c 4).trans rfl⟩
          clear hK K hH2
          try simp only [Act.put, List.getElem_toArray, List.getElem_cons_zero, List.getElem_cons_succ, List.setIfInBounds_toArray, List.set_cons_zero, List.set_cons_succ]
          refine PreG.done (by kernel_rfl) ?_
          simp only [List.drop_succ_cons, List.drop_zero]
          clear hH3
          go_wp2_with fail
          go_ret
          exact .inl ⟨he, rfl, R, _, S60⟩
        exact AllPre.nil
      exact AllPre.nil
    exact AllPre.nil
end
end Go.Proofs.YtklomjpnmmaogaaDoor
