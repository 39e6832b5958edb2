/- What the walks of texts ask of a world: Go's two errors of numerals. -/
import Derived.Test.YtklomjpnmmaogaaDoorShelf
import Derived.Test.YtklomjpnmmaogaaDoorMem
import Derived.Test.YtklomjpnmmaogaaDoorLP
import Derived.Laws.Strings3
import Derived.WalkSmall
import Derived.Lib.Hide
import Derived.Outline
namespace Go.Proofs.YtklomjpnmmaogaaDoor
open Go Go.RowKit
set_option linter.unusedVariables false
set_option linter.unusedSimpArgs false
set_option maxRecDepth 100000

structure LexW (W : World) : Prop where
  syn : ∃ tp p, W.var? Tryd.prog "strconv.ErrSyntax" = some #[.iface tp p]
  rng : ∃ tp p, W.var? Tryd.prog "strconv.ErrRange" = some #[.iface tp p]
  sz : 3 < W.heap.size ∧ 4 < W.heap.size
theorem LexW.below {W W' : World} (h : LexW W) (hb : Below W.heap.size W W') : LexW W' := by
  obtain ⟨s2, s3⟩ := h.sz
  obtain ⟨t1, p1, e1⟩ := h.syn
  obtain ⟨t2, p2, e2⟩ := h.rng
  have := hb.size
  exact ⟨⟨t1, p1, var?_below hb (by kernel_rfl) s2 e1⟩, ⟨t2, p2, var?_below hb (by kernel_rfl) s3 e2⟩, by omega, by omega⟩
theorem bl_bytes (w : World) (e : TypeId) (s : ByteArray) : Below w.heap.size w (Lib.bytesWorld w e s) := ⟨rfl, rfl, rfl, by rw [Lib.bytesWorld_size]; omega, fun k hk => Lib.bytesWorld_at_old w e s k hk⟩
/-- What ParseInt hands back at a decimal numeral; at anything else. -/
theorem lint_ok (s : ByteArray) (hs : s.size ≤ 281474976710656) (v : Int) (h : Lib.parseIntB 64 s.data.toList = .ok v) (w : World) :
    Calls Tryd.prog 94 #[.string s, .int .i64 10, .int .i64 64] w fun e w' => e = .returned (.tuple #[.int .i64 v, .nilIface]) ∧ Below w.heap.size w w' :=
  (Tryd.strconv_ParseInt_10_at64_ok s (by omega) v h w).mono fun e w' ⟨he, hw⟩ => ⟨he, by
    rcases hw with rfl | ⟨t, rfl⟩
    · exact Below.refl _ _
    · exact bl_bytes _ _ _⟩
theorem lint_bad (s : ByteArray) (hs : s.size ≤ 281474976710656) (h : ∀ v, Lib.parseIntB 64 s.data.toList ≠ .ok v) (w : World) (hw : LexW w) :
    Calls Tryd.prog 94 #[.string s, .int .i64 10, .int .i64 64] w fun e w' => ∃ v N, e = .returned (.tuple #[.int .i64 v, .iface 176 (.pointer (some ⟨N, 0, none⟩))]) ∧ Below w.heap.size w w' := by
  obtain ⟨t1, p1, e1⟩ := hw.syn
  obtain ⟨t2, p2, e2⟩ := hw.rng
  rcases hc : Lib.parseIntB 64 s.data.toList with v | _ | _
  · exact absurd hc (h v)
  · exact (Any.strconv_ParseInt_10_at64_syntax_var Tryd.laysC174 s hs hc t1 p1 w e1).mono fun e w' ⟨N, he, _, _, hb⟩ => ⟨0, N, he, hb⟩
  · exact (Tryd.strconv_ParseInt_10_at64_range_var s hs hc t2 p2 w e2).mono fun e w' ⟨N, he, _, _, hb⟩ => ⟨_, N, he, hb⟩
/-- A run: a letter, a digit or a sign, and letters and digits behind it. -/
structure RunT (t : List UInt8) : Prop where
  out : ∃ c r, t = c :: r ∧ (∀ d ∈ r, anB d = true) ∧ (c.toNat = 45 ∨ anB c = true)
end Go.Proofs.YtklomjpnmmaogaaDoor
