/- The document's Lex. -/
import Derived.Test.YtklomjpnmmaogaaDoorLO
import Derived.Test.YtklomjpnmmaogaaDoorLH
namespace Go.Proofs.YtklomjpnmmaogaaDoor
open Go Go.RowKit
set_option linter.unusedVariables false
set_option linter.unusedSimpArgs false
set_option maxRecDepth 100000

theorem info_RT : (Tryd.prog.info? 77).map (fun i => (i.zero, i.size, i.bytes)) = some (some (.agg #[.int .i64 0, .string ⟨#[]⟩, .int .i64 0, .int .i64 0, .int .i64 0]), 5, 48) := by kernel_rfl
/-- The document's scan under way: its tokens, and the place that is handed back. -/
structure Rc (w0 w : World) (R : Value) (l : List Tok) : Prop where
  row : w.ownsRow w0.heap.size 77 5 R l.length (toksC l)
  pc : Blk w w0.heap.size 37 #[.int .i64 0, .int .i64 0]
  bl : Below w0.heap.size w0 w
section
variable {w0 w w' : World} {R : Value} {l : List Tok}
theorem Rc.below (h : Rc w0 w R l) (hb : Below w.heap.size w w') : Rc w0 w' R l := ⟨own_below h.row hb, h.pc.below hb, bl_step h.bl hb⟩
theorem Rc.rb (h : Rc w0 w R l) : R.ownBlock ≠ some w0.heap.size := own_blk_apart h.row h.pc (by decide)
/-- A store into another block that is none of the scan's. -/
theorem Rc.far (h : Rc w0 w R l) {q : Nat} (hlo : w0.heap.size < q) (hr : R.ownBlock ≠ some q) (i : Nat) (u : Value) : Rc w0 (w.setCell ⟨q, i, none⟩ u) R l :=
  ⟨own_far h.row (p := ⟨q, i, none⟩) hr u, h.pc.far (p := ⟨q, i, none⟩) (Nat.ne_of_lt hlo) u, bl_set h.bl (p := ⟨q, i, none⟩) (Nat.le_of_lt hlo) u⟩
theorem Rc.app (h : Rc w0 w R l) (hl : l.length ≤ 2000000) {q : Nat} {t : TypeId} {x : Tok} (hq : Blk w q t #[.int .i64 x.kind, .string ⟨x.text.toArray⟩, .int .i64 x.num, .int .i64 x.line, .int .i64 x.col]) {ty : TypeId} :
    ∃ D d X, (Builtin.append_ #[66, 66] ty #[R, .slice (some ⟨q, 0, none⟩) 1 1]).run Tryd.prog w = .ok (.slice D (l.length + 1) d) X ∧ Rc w0 X (.slice D (l.length + 1) d) (l ++ [x]) := by
  obtain ⟨v', X, hrun, ho, hg, hat⟩ := run_app (t := 66) (ty := ty) (c := 1) Tryd.underlying66 info_RT rfl (by decide) h.row (reads5 hq) (fun u hu => by
    simp only [List.mem_cons, List.not_mem_nil, or_false] at hu
    rcases hu with rfl | rfl | rfl | rfl | rfl <;> rfl) (by unfold maxLen; omega) (by omega) h.bl.size
  obtain ⟨D, d, rfl, _⟩ := own_slice ho
  refine ⟨D, d, X, hrun, ?_, h.pc.grown hg (fun e => h.rb e.symm), bl_grown h.bl hg (fun k hk => own_base h.row k hk)⟩
  rw [List.length_append, toksC_app]
  simpa [toksC, tokC] using ho
end
/-- What the document's Lex hands back. -/
def RLexPost (w : World) (T : LexR) (e : Ending) (w' : World) : Prop :=
  ((∃ a c er, T = .err a c er ∧ e = .returned (.tuple #[.slice none 0 0, .agg #[.int .i64 a, .int .i64 c], .int .i64 er])) ∨
    (∃ L D d, T = .ok L ∧ e = .returned (.tuple #[.slice D L.length d, .agg #[.int .i64 0, .int .i64 0], .int .i64 0]) ∧ w'.ownsRow w.heap.size 77 5 (.slice D L.length d) L.length (toksC L))) ∧ Below w.heap.size w w'
theorem rpost_err {w w' : World} {T : LexR} {a c : Nat} {er : Int} (hT : T = .err a c er) (hb : Below w.heap.size w w') : RLexPost w T (.returned (.tuple #[.slice none 0 0, .agg #[.int .i64 a, .int .i64 c], .int .i64 er])) w' := ⟨.inl ⟨a, c, er, hT, rfl⟩, hb⟩
theorem rpost_ok {w w' : World} {T : LexR} {L : List Tok} {D : Option Addr} {d n : Nat} (hT : T = .ok L) (hn : L.length = n) (ho : w'.ownsRow w.heap.size 77 5 (.slice D n d) n (toksC L)) (hb : Below w.heap.size w w') : RLexPost w T (.returned (.tuple #[.slice D n d, .agg #[.int .i64 0, .int .i64 0], .int .i64 0])) w' := by
  subst hn
  exact ⟨.inr ⟨L, D, d, hT, rfl, ho⟩, hb⟩
/-- A run of which some bytes have been read. -/
structure RunS (s : ByteArray) (i k : Nat) (mid : List UInt8) : Prop where
  len : mid.length = k - (i + 1)
  all : ∀ d ∈ mid, anB d = true
  eq : s.data.toList.drop (i + 1) = mid ++ s.data.toList.drop k
theorem RunS.start (s : ByteArray) (i : Nat) : RunS s i (i + 1) [] := ⟨by simp, fun d h => by simp at h, rfl⟩
theorem RunS.next {s : ByteArray} {i k : Nat} {mid : List UInt8} (h : RunS s i k mid) (hik : i + 1 ≤ k) (hk : k < s.size) (ha : anB s[k] = true) : RunS s i (k + 1) (mid ++ [s[k]]) :=
  ⟨by rw [List.length_append, h.len]; simp; omega, fun d hd => by
    rcases List.mem_append.1 hd with hd | hd
    · exact h.all d hd
    · have : d = s[k] := by simpa using hd
      rw [this]; exact ha, by rw [h.eq, get_drop s k hk, List.append_assoc]; rfl⟩
theorem RunS.ends {s : ByteArray} {i k : Nat} {mid : List UInt8} (h : RunS s i k mid) (hi : i < s.size) (hik : i + 1 ≤ k) (hk : k ≤ s.size) (hs : Stops (s.data.toList.drop k)) :
    (s.extract i k).data.toList = s[i] :: mid ∧ (s.data.toList.drop (i + 1)).takeWhile anB = mid ∧ (s.data.toList.drop (i + 1)).dropWhile anB = s.data.toList.drop k := by
  refine ⟨?_, ?_, ?_⟩
  · rw [Lib.extract_data, get_drop s i hi, h.eq, show k - i = mid.length + 1 by rw [h.len]; omega, List.take_succ_cons]
    simp
  · rw [h.eq, (takeWhile_stop hs).1, (take_all h.all).1]
  · rw [h.eq, (takeWhile_stop hs).2, (take_all h.all).2]; rfl
theorem run_two {s : ByteArray} {i k : Nat} {mid : List UInt8} {hi : i < s.size} (h : (s.extract i k).data.toList = s[i] :: mid) (h2 : (s.data.toList.drop (i + 1)).takeWhile anB = mid) (hb : begB (s[i] :: s.data.toList.drop (i + 1)) = true) : (s.extract i k).data.toList.head? = some 45 → 2 ≤ (s.extract i k).size := fun hh => by
  rw [h] at hh
  injection hh with hh
  rw [hh] at hb
  rw [Lib.size_eq, h]
  cases hd : s.data.toList.drop (i + 1) with
  | nil => rw [hd] at hb; simp [begB, anB, letB, digB, headDig] at hb
  | cons d r =>
    rw [hd] at hb h2
    have hdd : digB d = true := by
      have e1 : anB 45 = false := by decide
      simp only [begB, e1, Bool.false_or, Bool.and_eq_true] at hb
      exact hb.2
    rw [List.takeWhile_cons, if_pos (by simp [anB, hdd])] at h2
    rw [← h2]
    simp
theorem beg_bool {c : UInt8} {r : List UInt8} : begB (c :: r) = (letB c || if c.toNat = 45 then headDig r else digB c) := by
  simp only [begB, anB]
  by_cases h : c.toNat = 45
  · have h1 : letB c = false := by simp [letB]; omega
    have h2 : digB c = false := by simp [digB]; omega
    rw [if_pos h, h1, h2]; simp [h]
  · rw [if_neg h]; simp [h]
theorem head_dig (s : ByteArray) (k : Nat) (h : k < s.size) : headDig (s.data.toList.drop k) = digB s[k] := by rw [get_drop s k h]; rfl
set_option maxHeartbeats 102400000 in
theorem rlex_short (s : ByteArray) (hs : s.size ≤ 1048576) (w : World) : Calls Tryd.prog 22 #[.string s] w fun e w' => RLexPost w (lexF s.data.toList 1 1 false) e w' := by
  obtain ⟨T, hT⟩ : ∃ T, lexF s.data.toList 1 1 false = T := ⟨_, rfl⟩
  rw [hT]
  have hns : ¬ (1048576 : Int) < s.size := by omega
  go_enter Tryd.func22, Tryd.ntmps22
  go_wp2_with fail
  go_loopw [5, 6, 7, 8, 9] (fun vo vl vc vr vi wr => ∃ (i : Nat) (l : List Tok) (line col : Nat) (rem : Bool), vi = .int .i64 i ∧ True ∧ vl = .int .i64 line ∧ vc = .int .i64 col ∧ vr = .bool rem ∧ Rc w wr vo l ∧ T = (lexF (s.data.toList.drop i) line col rem).pre l ∧ i ≤ s.size ∧ l.length ≤ i ∧ line ≤ i + 1 ∧ col ≤ i + 1) (fun _ _ _ _ vi _ => s.size - (intOf vi).toNat)
  case atStart =>
    refine ⟨0, [], 1, 1, false, rfl, trivial, rfl, rfl, rfl, ⟨own_nil _ _ _ _, Blk.new _ _ _, bl_alloc (Below.refl _ _) _⟩, ?_, by omega, by simp, by omega, by omega⟩
    rw [LexR.pre_nil]; exact hT.symm
  case round =>
    clear hT
    obtain ⟨i, l, line, col, rem, rfl, _, rfl, rfl, rfl, hR, hT, hin, hll, hln, hcl⟩ := hrel
    by_cases hps : i < s.size
    · have i0 : (i : Int) < s.size := by omega
      have i1 : (0 : Int) ≤ i := by omega
      have wi : IntKind.i64.wrap ((i : Int) + 1) = i + 1 := by rw [IntKind.wrap_i64]; omega
      have wl : IntKind.i64.wrap ((line : Int) + 1) = line + 1 := by rw [IntKind.wrap_i64]; omega
      have wc : IntKind.i64.wrap ((col : Int) + 1) = col + 1 := by rw [IntKind.wrap_i64]; omega
      have HP := fun w => point_any s i hps (by omega) w
      have hdr := get_drop s i hps
      rw [hdr] at hT HP
      obtain ⟨K, hK⟩ : ∃ K, pointL (s[i] :: s.data.toList.drop (i + 1)) = K := ⟨_, rfl⟩
      rw [hK] at HP
      replace HP := Lib.hid HP
      by_cases hp : K = 0
      · subst hp
        rw [lexF_bad hK] at hT
        have hTE : T = .err line col 20 := hT
        clear hT hK hdr
        go_wp2_with fail
        refine (HP.out _).mono ?_; rintro e u3 ⟨rfl, rfl⟩
        have EB := hR.pc
        have EL := hR.bl
        have eb_z : w.heap.size < u3.heap.size := EB.lt
        have eb_c0 : u3.cell? ⟨w.heap.size, 0, none⟩ = some (.int .i64 0) := (EB.cell 0).trans rfl
        have eb_f0 := EB.frozen 0
        have eb_c1 : u3.cell? ⟨w.heap.size, 1, none⟩ = some (.int .i64 0) := (EB.cell 1).trans rfl
        have eb_f1 := EB.frozen 1
        go_wp2_with fail
        have EB2 : Blk ((u3.setCell ⟨w.heap.size, 0, none⟩ (.int .i64 line)).setCell ⟨w.heap.size, 1, none⟩ (.int .i64 col)) w.heap.size 37 #[.int .i64 line, .int .i64 col] := (EB.put 0 _ rfl).put 1 _ rfl
        have EL2 := bl_set (bl_set EL (p := ⟨w.heap.size, 0, none⟩) (Nat.le_refl _) (.int .i64 line)) (p := ⟨w.heap.size, 1, none⟩) (Nat.le_refl _) (.int .i64 col)
        clear EB EL hR eb_z eb_c0 eb_f0 eb_c1 eb_f1
        generalize (u3.setCell ⟨w.heap.size, 0, none⟩ (.int .i64 line)).setCell ⟨w.heap.size, 1, none⟩ (.int .i64 col) = V at EB2 EL2 ⊢
        have fb_z : w.heap.size < V.heap.size := EB2.lt
        have fb_c0 : V.cell? ⟨w.heap.size, 0, none⟩ = some (.int .i64 line) := (EB2.cell 0).trans rfl
        have fb_f0 := EB2.frozen 0
        have fb_c1 : V.cell? ⟨w.heap.size, 1, none⟩ = some (.int .i64 col) := (EB2.cell 1).trans rfl
        have fb_f1 := EB2.frozen 1
        refine bodyPost_ret (v := .tuple #[.slice none 0 0, .agg #[.int .i64 line, .int .i64 col], .int .i64 20]) (by simp [results, Tryd.results22, go_sem, fb_z, fb_c0, fb_f0, fb_c1, fb_f1]) rfl (rpost_err hTE EL2)
      · have hKn : ((K : Int) == 0) = false := by simp; omega
        have hp' : ¬ pointL (s[i] :: s.data.toList.drop (i + 1)) = 0 := by rw [hK]; exact hp
        have hiK : i + K ≤ s.size ∧ s.data.toList.drop (i + K) = (s[i] :: s.data.toList.drop (i + 1)).drop K := by
          obtain ⟨q, hq, hql, _⟩ := point_take hp'
          have : (s.data.toList.drop (i + 1)).length = s.size - (i + 1) := by rw [List.length_drop, ← Lib.size_eq]
          exact ⟨by omega, by rw [← hdr, List.drop_drop]⟩
        obtain ⟨hiK, hdK⟩ := hiK
        have wK : IntKind.i64.wrap ((i : Int) + K) = ((i + K : Nat) : Int) := by rw [IntKind.wrap_i64]; omega
        have HL := Lib.hid (fun w => rlet_any s[i] w)
        have HD := Lib.hid (fun w => rdig_any s[i] w)
        obtain ⟨pl, hpl⟩ : ∃ p, letB s[i] = p := ⟨_, rfl⟩
        obtain ⟨pd, hpd⟩ : ∃ p, digB s[i] = p := ⟨_, rfl⟩
        have hbb := beg_bool (c := s[i]) (r := s.data.toList.drop (i + 1))
        rw [hpl, hpd] at hbb
        rw [hpl] at HL
        rw [hpd] at HD
        have hlb : s[i].toNat < 256 := s[i].toNat_lt
        by_cases c10 : s[i].toNat = 10
        · have e45 : ((s[i].toNat : Int) == 45) = false := by simp; omega
          have e10 : ((s[i].toNat : Int) == 10) = true := by simp; omega
          rw [lexF_feed c10] at hT
          have HT := Lib.hid hT
          clear hT hK hp hp' hdr hdK hbb hpl hpd c10
          go_wp2_with fail
          refine (HP.out _).mono ?_; rintro e u1 ⟨rfl, rfl⟩
          go_wp2_with fail
          refine (HL.out _).mono ?_; rintro e u2 ⟨rfl, rfl⟩
          go_wp2_with fail
          refine (HD.out _).mono ?_; rintro e u3 ⟨rfl, rfl⟩
          go_wp2_with fail
          go_roundw
          case rel => exact ⟨i + 1, l, line + 1, 1, false, by go_num, trivial, by go_num, rfl, rfl, hR, HT.out, by omega, by omega, by omega, by omega⟩
          case measure => simp only [intOf]; omega
        · have e10 : ((s[i].toNat : Int) == 10) = false := by simp; omega
          cases rem with
          | true =>
            rw [lexF_skip hp' c10 (.inl rfl), hK, ← hdK] at hT
            simp only [Bool.true_or] at hT
            have HT := Lib.hid hT
            clear hT hK hp' hdr hdK hbb hpl hpd c10
            by_cases c45 : s[i].toNat = 45
            · have e45 : ((s[i].toNat : Int) == 45) = true := by simp; omega
              clear c45
              by_cases h1 : i + 1 < s.size
              · have j1 : (i : Int) + 1 < s.size := by omega
                have HS := Lib.hid (fun w => rdig_any s[i + 1] w)
                go_wp2_with fail
                refine (HP.out _).mono ?_; rintro e u1 ⟨rfl, rfl⟩
                go_wp2_with fail
                refine (HL.out _).mono ?_; rintro e u2 ⟨rfl, rfl⟩
                go_wp2_with fail
                refine (HD.out _).mono ?_; rintro e u3 ⟨rfl, rfl⟩
                go_wp2_with fail
                refine (HS.out _).mono ?_; rintro e u4 ⟨rfl, rfl⟩
                go_wp2_with fail
                go_roundw
                case rel => exact ⟨i + K, l, line, col + 1, true, rfl, trivial, rfl, by go_num, rfl, hR, HT.out, by omega, by omega, by omega, by omega⟩
                case measure => simp only [intOf]; omega
              · have j1 : ¬ (i : Int) + 1 < s.size := by omega
                go_wp2_with fail
                refine (HP.out _).mono ?_; rintro e u1 ⟨rfl, rfl⟩
                go_wp2_with fail
                refine (HL.out _).mono ?_; rintro e u2 ⟨rfl, rfl⟩
                go_wp2_with fail
                refine (HD.out _).mono ?_; rintro e u3 ⟨rfl, rfl⟩
                go_wp2_with fail
                go_roundw
                case rel => exact ⟨i + K, l, line, col + 1, true, rfl, trivial, rfl, by go_num, rfl, hR, HT.out, by omega, by omega, by omega, by omega⟩
                case measure => simp only [intOf]; omega
            · have e45 : ((s[i].toNat : Int) == 45) = false := by simp; omega
              clear c45
              go_wp2_with fail
              refine (HP.out _).mono ?_; rintro e u1 ⟨rfl, rfl⟩
              go_wp2_with fail
              refine (HL.out _).mono ?_; rintro e u2 ⟨rfl, rfl⟩
              go_wp2_with fail
              refine (HD.out _).mono ?_; rintro e u3 ⟨rfl, rfl⟩
              go_wp2_with fail
              go_roundw
              case rel => exact ⟨i + K, l, line, col + 1, true, rfl, trivial, rfl, by go_num, rfl, hR, HT.out, by omega, by omega, by omega, by omega⟩
              case measure => simp only [intOf]; omega
          | false =>
            by_cases cw : s[i].toNat = 32 ∨ s[i].toNat = 9 ∨ s[i].toNat = 13 ∨ s[i].toNat = 35
            · rw [lexF_skip hp' c10 (.inr cw), hK, ← hdK] at hT
              have e45 : ((s[i].toNat : Int) == 45) = false := by simp; omega
              have HT := Lib.hid hT
              clear hT hK hp' hdr hdK hbb hpl hpd c10
              rcases cw with cw | cw | cw | cw
              · have e32 : ((s[i].toNat : Int) == 32) = true := by simp; omega
                have e9 : ((s[i].toNat : Int) == 9) = false := by simp; omega
                have e13 : ((s[i].toNat : Int) == 13) = false := by simp; omega
                have e35 : ((s[i].toNat : Int) == 35) = false := by simp; omega
                have er : (false || decide (s[i].toNat = 35)) = false := by simp; omega
                rw [er] at HT
                clear cw er
                go_wp2_with fail
                refine (HP.out _).mono ?_; rintro e u1 ⟨rfl, rfl⟩
                go_wp2_with fail
                refine (HL.out _).mono ?_; rintro e u2 ⟨rfl, rfl⟩
                go_wp2_with fail
                refine (HD.out _).mono ?_; rintro e u3 ⟨rfl, rfl⟩
                go_wp2_with fail
                go_roundw
                case rel => exact ⟨i + K, l, line, col + 1, false, rfl, trivial, rfl, by go_num, rfl, hR, HT.out, by omega, by omega, by omega, by omega⟩
                case measure => simp only [intOf]; omega
              · have e32 : ((s[i].toNat : Int) == 32) = false := by simp; omega
                have e9 : ((s[i].toNat : Int) == 9) = true := by simp; omega
                have e13 : ((s[i].toNat : Int) == 13) = false := by simp; omega
                have e35 : ((s[i].toNat : Int) == 35) = false := by simp; omega
                have er : (false || decide (s[i].toNat = 35)) = false := by simp; omega
                rw [er] at HT
                clear cw er
                go_wp2_with fail
                refine (HP.out _).mono ?_; rintro e u1 ⟨rfl, rfl⟩
                go_wp2_with fail
                refine (HL.out _).mono ?_; rintro e u2 ⟨rfl, rfl⟩
                go_wp2_with fail
                refine (HD.out _).mono ?_; rintro e u3 ⟨rfl, rfl⟩
                go_wp2_with fail
                go_roundw
                case rel => exact ⟨i + K, l, line, col + 1, false, rfl, trivial, rfl, by go_num, rfl, hR, HT.out, by omega, by omega, by omega, by omega⟩
                case measure => simp only [intOf]; omega
              · have e32 : ((s[i].toNat : Int) == 32) = false := by simp; omega
                have e9 : ((s[i].toNat : Int) == 9) = false := by simp; omega
                have e13 : ((s[i].toNat : Int) == 13) = true := by simp; omega
                have e35 : ((s[i].toNat : Int) == 35) = false := by simp; omega
                have er : (false || decide (s[i].toNat = 35)) = false := by simp; omega
                rw [er] at HT
                clear cw er
                go_wp2_with fail
                refine (HP.out _).mono ?_; rintro e u1 ⟨rfl, rfl⟩
                go_wp2_with fail
                refine (HL.out _).mono ?_; rintro e u2 ⟨rfl, rfl⟩
                go_wp2_with fail
                refine (HD.out _).mono ?_; rintro e u3 ⟨rfl, rfl⟩
                go_wp2_with fail
                go_roundw
                case rel => exact ⟨i + K, l, line, col + 1, false, rfl, trivial, rfl, by go_num, rfl, hR, HT.out, by omega, by omega, by omega, by omega⟩
                case measure => simp only [intOf]; omega
              · have e32 : ((s[i].toNat : Int) == 32) = false := by simp; omega
                have e9 : ((s[i].toNat : Int) == 9) = false := by simp; omega
                have e13 : ((s[i].toNat : Int) == 13) = false := by simp; omega
                have e35 : ((s[i].toNat : Int) == 35) = true := by simp; omega
                have er : (false || decide (s[i].toNat = 35)) = true := by simp; omega
                rw [er] at HT
                clear cw er
                go_wp2_with fail
                refine (HP.out _).mono ?_; rintro e u1 ⟨rfl, rfl⟩
                go_wp2_with fail
                refine (HL.out _).mono ?_; rintro e u2 ⟨rfl, rfl⟩
                go_wp2_with fail
                refine (HD.out _).mono ?_; rintro e u3 ⟨rfl, rfl⟩
                go_wp2_with fail
                go_roundw
                case rel => exact ⟨i + K, l, line, col + 1, true, rfl, trivial, rfl, by go_num, rfl, hR, HT.out, by omega, by omega, by omega, by omega⟩
                case measure => simp only [intOf]; omega
            · have e32 : ((s[i].toNat : Int) == 32) = false := by simp; omega
              have e9 : ((s[i].toNat : Int) == 9) = false := by simp; omega
              have e13 : ((s[i].toNat : Int) == 13) = false := by simp; omega
              have e35 : ((s[i].toNat : Int) == 35) = false := by simp; omega
              by_cases c58 : s[i].toNat = 58
              · have e45 : ((s[i].toNat : Int) == 45) = false := by simp; omega
                have e58 : ((s[i].toNat : Int) == 58) = true := by simp; omega
                rw [lexF_colon c58, LexR.pre_cons] at hT
                have HT2 := Lib.hid hT
                clear hT hK hp hp' hdr hdK hbb hpl hpd c10 cw c58
                go_wp2_with fail
                refine (HP.out _).mono ?_; rintro e u1 ⟨rfl, rfl⟩
                go_wp2_with fail
                refine (HL.out _).mono ?_; rintro e u2 ⟨rfl, rfl⟩
                go_wp2_with fail
                refine (HD.out _).mono ?_; rintro e u3 ⟨rfl, rfl⟩
                have N : Blk (u3.alloc (.cells #[.int .i64 2, .string ⟨#[58]⟩, .int .i64 0, .int .i64 line, .int .i64 col] 77)) u3.heap.size 77 #[.int .i64 2, .string ⟨#[58]⟩, .int .i64 0, .int .i64 line, .int .i64 col] := Blk.new _ _ _
                obtain ⟨D, d, X, hrun, hR2⟩ := (hR.below (bl_alloc (Below.refl _ _) (.cells #[.int .i64 2, .string ⟨#[58]⟩, .int .i64 0, .int .i64 line, .int .i64 col] 77))).app (by omega) (x := ⟨2, [58], 0, line, col⟩) (ty := 66) N
                go_wp2_with (at_builtin; refine list_app rfl (.tmp 91) (.tmp 95) 66 66 rfl (by exact hrun) ?_)
                go_roundw
                case rel => exact ⟨i + 1, l ++ [⟨2, [58], 0, line, col⟩], line, col + 1, false, by go_num, by simp, rfl, by go_num, rfl, hR2, HT2.out, by omega, by simp; omega, by omega, by omega⟩
                case measure => simp only [intOf]; omega
              · have e58 : ((s[i].toNat : Int) == 58) = false := by simp; omega
                by_cases hbeg : begB (s[i] :: s.data.toList.drop (i + 1)) = true
                · rw [hbeg] at hbb
                  have HT := Lib.hid hT
                  have hh : s[i].toNat = 45 ∨ anB s[i] = true := by
                    have := hbeg
                    simp only [begB, Bool.or_eq_true, Bool.and_eq_true, decide_eq_true_eq] at this
                    rcases this with h | h
                    · exact .inr h
                    · exact .inl h.1
                  clear hT hK hp hp' hdK
                  by_cases c45 : s[i].toNat = 45
                  · have e45 : ((s[i].toNat : Int) == 45) = true := by simp; omega
                    rw [if_pos c45] at hbb
                    have h1 : i + 1 < s.size := by
                      by_cases h1 : i + 1 < s.size
                      · exact h1
                      · rw [List.drop_eq_nil_of_le (by rw [← Lib.size_eq]; omega)] at hbb
                        have : pl = false := by rw [← hpl]; simp [letB]; omega
                        rw [this] at hbb
                        simp [headDig] at hbb
                    have j1 : (i : Int) + 1 < s.size := by omega
                    rw [head_dig s _ h1] at hbb
                    have HS := Lib.hid (fun w => rdig_any s[i + 1] w)
                    obtain ⟨ps, hps2⟩ : ∃ p, digB s[i + 1] = p := ⟨_, rfl⟩
                    rw [hps2] at HS hbb
                    have hpl2 : pl = false := by rw [← hpl]; simp [letB]; omega
                    subst hpl2
                    have hps3 : ps = true := by simpa using hbb.symm
                    subst hps3
                    clear hbb hpl hpd hps2 hdr c45
                    go_wp2_with fail
                    refine (HP.out _).mono ?_; rintro e u1 ⟨rfl, rfl⟩
                    go_wp2_with fail
                    refine (HL.out _).mono ?_; rintro e u2 ⟨rfl, rfl⟩
                    go_wp2_with fail
                    refine (HD.out _).mono ?_; rintro e u3 ⟨rfl, rfl⟩
                    go_wp2_with fail
                    refine (HS.out _).mono ?_; rintro e u4 ⟨rfl, rfl⟩
                    go_wp2_with fail
                    have HRc := Lib.hid hR
                    clear hR
                    go_loopw [14] (fun vk wr => ∃ (k : Nat) (mid : List UInt8), vk = .int .i64 k ∧ i + 1 ≤ k ∧ k ≤ s.size ∧ Hid (RunS s i k mid) ∧ wr = u4) (fun vk _ => s.size - (intOf vk).toNat)
                    case atStart => exact ⟨i + 1, [], by go_num, by omega, by omega, Lib.hid (RunS.start s i), rfl⟩
                    case round =>
                      obtain ⟨k, mid, rfl, hik, hkn, RS, hv⟩ := hrel
                      obtain rfl := hv.symm
                      clear hv
                      by_cases hkl : k < s.size
                      · have k0 : (k : Int) < s.size := by omega
                        have k1 : (0 : Int) ≤ k := by omega
                        have wk : IntKind.i64.wrap ((k : Int) + 1) = k + 1 := by rw [IntKind.wrap_i64]; omega
                        have Q1 := Lib.hid (fun w => rlet_any s[k] w)
                        have Q2 := Lib.hid (fun w => rdig_any s[k] w)
                        obtain ⟨p, hp⟩ : ∃ p, letB s[k] = p := ⟨_, rfl⟩
                        obtain ⟨q, hq⟩ : ∃ q, digB s[k] = q := ⟨_, rfl⟩
                        rw [hp] at Q1
                        rw [hq] at Q2
                        have han : anB s[k] = (p || q) := by rw [← hp, ← hq]; rfl
                        clear hp hq
                        go_wp2_with fail
                        refine (Q1.out _).mono ?_; rintro e a1 ⟨rfl, rfl⟩
                        go_wp2_with fail
                        refine (Q2.out _).mono ?_; rintro e a2 ⟨rfl, rfl⟩
                        by_cases hpq : (p || q) = true
                        · rw [hpq] at han
                          have RS2 := Lib.hid (RS.out.next hik hkl han)
                          cases p <;> cases q
                          · cases hpq
                          · go_wp2_with fail
                            go_roundw
                            case rel => exact ⟨k + 1, _, by go_num, by omega, by omega, RS2, trivial⟩
                            case measure => simp only [intOf]; omega
                          · go_wp2_with fail
                            go_roundw
                            case rel => exact ⟨k + 1, _, by go_num, by omega, by omega, RS2, trivial⟩
                            case measure => simp only [intOf]; omega
                          · go_wp2_with fail
                            go_roundw
                            case rel => exact ⟨k + 1, _, by go_num, by omega, by omega, RS2, trivial⟩
                            case measure => simp only [intOf]; omega
                        · have hst : Stops (s.data.toList.drop k) := fun c q hc => by
                            rw [get_drop s k hkl] at hc
                            injection hc with hc _
                            rw [← hc, han]
                            simpa using hpq
                          have hpf : p = false := by cases p; rfl; exact absurd rfl hpq
                          have hqf : q = false := by cases q; rfl; exact absurd (by simp) hpq
                          subst hpf hqf
                          have hR := HRc.out
                          clear HRc Q1 Q2 han hpq
                          obtain ⟨x1, x2, x3⟩ := RS.out.ends hps hik hkn hst
                          have hTk := HT.out
                          rw [lexF_run hbeg] at hTk
                          unfold runR at hTk
                          rw [x2, x3] at hTk
                          simp only [List.singleton_append] at hTk
                          have hrt : RunT (s.extract i k).data.toList := by rw [x1]; exact ⟨s[i], mid, rfl, RS.out.all, hh⟩
                          have hsz : (s.extract i k).size ≤ 281474976710656 := by rw [ByteArray.size_extract]; omega
                          have HK := rtok_any (s.extract i k) hsz a2 hrt (run_two x1 x2 hbeg)
                          have etx : s.extract i k = ⟨(s[i] :: mid).toArray⟩ := by apply ByteArray.ext; apply Array.toList_inj.1; exact x1
                          have hml : (s[i] :: mid).length = k - i := by rw [List.length_cons, RS.out.len]; omega
                          rw [x1, etx] at HK
                          clear x1 x2 x3 hrt hsz
                          generalize s[i] :: mid = tt at HK hTk etx hml
                          replace HK := Lib.hid HK
                          have n0 : (0 : Int) ≤ i := by omega
                          have n1 : (i : Int) ≤ k := by omega
                          have n2 : (k : Int) ≤ s.size := by omega
                          obtain ⟨er, kd, nm, htk⟩ : ∃ er kd nm, tokenL tt = (er, kd, nm) := ⟨_, _, _, rfl⟩
                          rw [htk] at HK hTk
                          simp only at HK hTk
                          clear htk RS
                          by_cases he : er = 0
                          · subst he
                            rw [if_pos rfl] at hTk
                            rw [if_pos rfl] at HK
                            rw [LexR.pre_cons] at hTk
                            have HT2 := Lib.hid hTk
                            clear hTk
                            go_wp2_with fail
                            refine HK.out.mono ?_; rintro e u9 ⟨rfl, hb9⟩
                            have hR9 := hR.below hb9
                            clear hb9 hR etx
                            have wa : IntKind.i64.wrap ((col : Int) + k) = (col : Int) + k := by rw [IntKind.wrap_i64]; omega
                            have wb : IntKind.i64.wrap ((col : Int) + k - i) = (col : Int) + k - i := by rw [IntKind.wrap_i64]; omega
                            have hWs : (u9.alloc (.cells #[.int .i64 kd, .string ⟨tt.toArray⟩, .int .i64 nm, .int .i64 line, .int .i64 col] 77)).heap.size = u9.heap.size + 1 := by simp only [World.alloc, Array.size_push]
                            have N : Blk ((u9.alloc (.cells #[.int .i64 kd, .string ⟨tt.toArray⟩, .int .i64 nm, .int .i64 line, .int .i64 col] 77)).alloc (.cells #[.int .i64 kd, .string ⟨tt.toArray⟩, .int .i64 nm, .int .i64 line, .int .i64 col] 77)) ((u9.alloc (.cells #[.int .i64 kd, .string ⟨tt.toArray⟩, .int .i64 nm, .int .i64 line, .int .i64 col] 77)).heap.size) 77 #[.int .i64 kd, .string ⟨tt.toArray⟩, .int .i64 nm, .int .i64 line, .int .i64 col] := Blk.new _ _ _
                            obtain ⟨D, d, X, hrun, hR2⟩ := ((hR9.below (bl_alloc (Below.refl _ _) (.cells #[.int .i64 kd, .string ⟨tt.toArray⟩, .int .i64 nm, .int .i64 line, .int .i64 col] 77))).below (bl_alloc (Below.refl _ _) (.cells #[.int .i64 kd, .string ⟨tt.toArray⟩, .int .i64 nm, .int .i64 line, .int .i64 col] 77))).app (by omega) (x := ⟨kd, tt, nm, line, col⟩) (ty := 66) N
                            rw [hWs] at hrun
                            go_wp2_with (at_builtin; refine list_app rfl (.tmp 150) (.tmp 152) 66 66 rfl (by exact hrun) ?_)
                            go_roundw
                            case rel => exact ⟨k, l ++ [⟨kd, tt, nm, line, col⟩], line, col + tt.length, false, rfl, trivial, rfl, by (show Value.int .i64 ((col : Int) + k - i) = _); (congr 1; omega), rfl, hR2, HT2.out, by omega, by (rw [List.length_append]; simp; omega), by omega, by omega⟩
                            case measure => simp only [intOf]; omega
                          · rw [if_neg he] at hTk HK
                            have hne : (er == 0) = false := by simpa using he
                            have hTE : T = .err line col er := hTk
                            go_wp2_with fail
                            refine HK.out.mono ?_; rintro e u9 ⟨rfl, hb9⟩
                            replace hR := (hR.below hb9).below (bl_alloc (Below.refl _ _) (.cells #[.int .i64 kd, .string ⟨#[]⟩, .int .i64 nm, .int .i64 0, .int .i64 0] 77))
                            clear hb9 hTk HK etx
                            have EB := hR.pc
                            have EL := hR.bl
                            have eb_z : w.heap.size < (u9.alloc (.cells #[.int .i64 kd, .string ⟨#[]⟩, .int .i64 nm, .int .i64 0, .int .i64 0] 77)).heap.size := EB.lt
                            have eb_c0 : (u9.alloc (.cells #[.int .i64 kd, .string ⟨#[]⟩, .int .i64 nm, .int .i64 0, .int .i64 0] 77)).cell? ⟨w.heap.size, 0, none⟩ = some (.int .i64 0) := (EB.cell 0).trans rfl
                            have eb_f0 := EB.frozen 0
                            have eb_c1 : (u9.alloc (.cells #[.int .i64 kd, .string ⟨#[]⟩, .int .i64 nm, .int .i64 0, .int .i64 0] 77)).cell? ⟨w.heap.size, 1, none⟩ = some (.int .i64 0) := (EB.cell 1).trans rfl
                            have eb_f1 := EB.frozen 1
                            go_wp2_with fail
                            have EB2 : Blk (((u9.alloc (.cells #[.int .i64 kd, .string ⟨#[]⟩, .int .i64 nm, .int .i64 0, .int .i64 0] 77)).setCell ⟨w.heap.size, 0, none⟩ (.int .i64 line)).setCell ⟨w.heap.size, 1, none⟩ (.int .i64 col)) w.heap.size 37 #[.int .i64 line, .int .i64 col] := (EB.put 0 _ rfl).put 1 _ rfl
                            have EL2 := bl_set (bl_set EL (p := ⟨w.heap.size, 0, none⟩) (Nat.le_refl _) (.int .i64 line)) (p := ⟨w.heap.size, 1, none⟩) (Nat.le_refl _) (.int .i64 col)
                            clear EB EL hR eb_z eb_c0 eb_f0 eb_c1 eb_f1
                            generalize ((u9.alloc (.cells #[.int .i64 kd, .string ⟨#[]⟩, .int .i64 nm, .int .i64 0, .int .i64 0] 77)).setCell ⟨w.heap.size, 0, none⟩ (.int .i64 line)).setCell ⟨w.heap.size, 1, none⟩ (.int .i64 col) = V at EB2 EL2 ⊢
                            have fb_z : w.heap.size < V.heap.size := EB2.lt
                            have fb_c0 : V.cell? ⟨w.heap.size, 0, none⟩ = some (.int .i64 line) := (EB2.cell 0).trans rfl
                            have fb_f0 := EB2.frozen 0
                            have fb_c1 : V.cell? ⟨w.heap.size, 1, none⟩ = some (.int .i64 col) := (EB2.cell 1).trans rfl
                            have fb_f1 := EB2.frozen 1
                            refine bodyPost_ret (v := .tuple #[.slice none 0 0, .agg #[.int .i64 line, .int .i64 col], .int .i64 er]) (by simp [results, Tryd.results22, go_sem, fb_z, fb_c0, fb_f0, fb_c1, fb_f1]) rfl (rpost_err hTE EL2)
                      · have hst : Stops (s.data.toList.drop k) := fun c q hc => by
                          rw [List.drop_eq_nil_of_le (by rw [← Lib.size_eq]; omega)] at hc
                          cases hc
                        have k0 : ¬ (k : Int) < s.size := by omega
                        have hR := HRc.out
                        clear HRc hkl
                        obtain ⟨x1, x2, x3⟩ := RS.out.ends hps hik hkn hst
                        have hTk := HT.out
                        rw [lexF_run hbeg] at hTk
                        unfold runR at hTk
                        rw [x2, x3] at hTk
                        simp only [List.singleton_append] at hTk
                        have hrt : RunT (s.extract i k).data.toList := by rw [x1]; exact ⟨s[i], mid, rfl, RS.out.all, hh⟩
                        have hsz : (s.extract i k).size ≤ 281474976710656 := by rw [ByteArray.size_extract]; omega
                        have HK := rtok_any (s.extract i k) hsz u4 hrt (run_two x1 x2 hbeg)
                        have etx : s.extract i k = ⟨(s[i] :: mid).toArray⟩ := by apply ByteArray.ext; apply Array.toList_inj.1; exact x1
                        have hml : (s[i] :: mid).length = k - i := by rw [List.length_cons, RS.out.len]; omega
                        rw [x1, etx] at HK
                        clear x1 x2 x3 hrt hsz
                        generalize s[i] :: mid = tt at HK hTk etx hml
                        replace HK := Lib.hid HK
                        have n0 : (0 : Int) ≤ i := by omega
                        have n1 : (i : Int) ≤ k := by omega
                        have n2 : (k : Int) ≤ s.size := by omega
                        obtain ⟨er, kd, nm, htk⟩ : ∃ er kd nm, tokenL tt = (er, kd, nm) := ⟨_, _, _, rfl⟩
                        rw [htk] at HK hTk
                        simp only at HK hTk
                        clear htk RS
                        by_cases he : er = 0
                        · subst he
                          rw [if_pos rfl] at hTk
                          rw [if_pos rfl] at HK
                          rw [LexR.pre_cons] at hTk
                          have HT2 := Lib.hid hTk
                          clear hTk
                          go_wp2_with fail
                          refine HK.out.mono ?_; rintro e u9 ⟨rfl, hb9⟩
                          have hR9 := hR.below hb9
                          clear hb9 hR etx
                          have wa : IntKind.i64.wrap ((col : Int) + k) = (col : Int) + k := by rw [IntKind.wrap_i64]; omega
                          have wb : IntKind.i64.wrap ((col : Int) + k - i) = (col : Int) + k - i := by rw [IntKind.wrap_i64]; omega
                          have hWs : (u9.alloc (.cells #[.int .i64 kd, .string ⟨tt.toArray⟩, .int .i64 nm, .int .i64 line, .int .i64 col] 77)).heap.size = u9.heap.size + 1 := by simp only [World.alloc, Array.size_push]
                          have N : Blk ((u9.alloc (.cells #[.int .i64 kd, .string ⟨tt.toArray⟩, .int .i64 nm, .int .i64 line, .int .i64 col] 77)).alloc (.cells #[.int .i64 kd, .string ⟨tt.toArray⟩, .int .i64 nm, .int .i64 line, .int .i64 col] 77)) ((u9.alloc (.cells #[.int .i64 kd, .string ⟨tt.toArray⟩, .int .i64 nm, .int .i64 line, .int .i64 col] 77)).heap.size) 77 #[.int .i64 kd, .string ⟨tt.toArray⟩, .int .i64 nm, .int .i64 line, .int .i64 col] := Blk.new _ _ _
                          obtain ⟨D, d, X, hrun, hR2⟩ := ((hR9.below (bl_alloc (Below.refl _ _) (.cells #[.int .i64 kd, .string ⟨tt.toArray⟩, .int .i64 nm, .int .i64 line, .int .i64 col] 77))).below (bl_alloc (Below.refl _ _) (.cells #[.int .i64 kd, .string ⟨tt.toArray⟩, .int .i64 nm, .int .i64 line, .int .i64 col] 77))).app (by omega) (x := ⟨kd, tt, nm, line, col⟩) (ty := 66) N
                          rw [hWs] at hrun
                          go_wp2_with (at_builtin; refine list_app rfl (.tmp 150) (.tmp 152) 66 66 rfl (by exact hrun) ?_)
                          go_roundw
                          case rel => exact ⟨k, l ++ [⟨kd, tt, nm, line, col⟩], line, col + tt.length, false, rfl, trivial, rfl, by (show Value.int .i64 ((col : Int) + k - i) = _); (congr 1; omega), rfl, hR2, HT2.out, by omega, by (rw [List.length_append]; simp; omega), by omega, by omega⟩
                          case measure => simp only [intOf]; omega
                        · rw [if_neg he] at hTk HK
                          have hne : (er == 0) = false := by simpa using he
                          have hTE : T = .err line col er := hTk
                          go_wp2_with fail
                          refine HK.out.mono ?_; rintro e u9 ⟨rfl, hb9⟩
                          replace hR := (hR.below hb9).below (bl_alloc (Below.refl _ _) (.cells #[.int .i64 kd, .string ⟨#[]⟩, .int .i64 nm, .int .i64 0, .int .i64 0] 77))
                          clear hb9 hTk HK etx
                          have EB := hR.pc
                          have EL := hR.bl
                          have eb_z : w.heap.size < (u9.alloc (.cells #[.int .i64 kd, .string ⟨#[]⟩, .int .i64 nm, .int .i64 0, .int .i64 0] 77)).heap.size := EB.lt
                          have eb_c0 : (u9.alloc (.cells #[.int .i64 kd, .string ⟨#[]⟩, .int .i64 nm, .int .i64 0, .int .i64 0] 77)).cell? ⟨w.heap.size, 0, none⟩ = some (.int .i64 0) := (EB.cell 0).trans rfl
                          have eb_f0 := EB.frozen 0
                          have eb_c1 : (u9.alloc (.cells #[.int .i64 kd, .string ⟨#[]⟩, .int .i64 nm, .int .i64 0, .int .i64 0] 77)).cell? ⟨w.heap.size, 1, none⟩ = some (.int .i64 0) := (EB.cell 1).trans rfl
                          have eb_f1 := EB.frozen 1
                          go_wp2_with fail
                          have EB2 : Blk (((u9.alloc (.cells #[.int .i64 kd, .string ⟨#[]⟩, .int .i64 nm, .int .i64 0, .int .i64 0] 77)).setCell ⟨w.heap.size, 0, none⟩ (.int .i64 line)).setCell ⟨w.heap.size, 1, none⟩ (.int .i64 col)) w.heap.size 37 #[.int .i64 line, .int .i64 col] := (EB.put 0 _ rfl).put 1 _ rfl
                          have EL2 := bl_set (bl_set EL (p := ⟨w.heap.size, 0, none⟩) (Nat.le_refl _) (.int .i64 line)) (p := ⟨w.heap.size, 1, none⟩) (Nat.le_refl _) (.int .i64 col)
                          clear EB EL hR eb_z eb_c0 eb_f0 eb_c1 eb_f1
                          generalize ((u9.alloc (.cells #[.int .i64 kd, .string ⟨#[]⟩, .int .i64 nm, .int .i64 0, .int .i64 0] 77)).setCell ⟨w.heap.size, 0, none⟩ (.int .i64 line)).setCell ⟨w.heap.size, 1, none⟩ (.int .i64 col) = V at EB2 EL2 ⊢
                          have fb_z : w.heap.size < V.heap.size := EB2.lt
                          have fb_c0 : V.cell? ⟨w.heap.size, 0, none⟩ = some (.int .i64 line) := (EB2.cell 0).trans rfl
                          have fb_f0 := EB2.frozen 0
                          have fb_c1 : V.cell? ⟨w.heap.size, 1, none⟩ = some (.int .i64 col) := (EB2.cell 1).trans rfl
                          have fb_f1 := EB2.frozen 1
                          refine bodyPost_ret (v := .tuple #[.slice none 0 0, .agg #[.int .i64 line, .int .i64 col], .int .i64 er]) (by simp [results, Tryd.results22, go_sem, fb_z, fb_c0, fb_f0, fb_c1, fb_f1]) rfl (rpost_err hTE EL2)
                  · have e45 : ((s[i].toNat : Int) == 45) = false := by simp; omega
                    rw [if_neg c45] at hbb
                    clear hpl hpd hdr c45
                    cases pl
                    · have hpd3 : pd = true := by simpa using hbb.symm
                      subst hpd3
                      clear hbb
                      go_wp2_with fail
                      refine (HP.out _).mono ?_; rintro e u1 ⟨rfl, rfl⟩
                      go_wp2_with fail
                      refine (HL.out _).mono ?_; rintro e u2 ⟨rfl, rfl⟩
                      go_wp2_with fail
                      refine (HD.out _).mono ?_; rintro e u3 ⟨rfl, rfl⟩
                      go_wp2_with fail
                      have HRc := Lib.hid hR
                      clear hR
                      go_loopw [14] (fun vk wr => ∃ (k : Nat) (mid : List UInt8), vk = .int .i64 k ∧ i + 1 ≤ k ∧ k ≤ s.size ∧ Hid (RunS s i k mid) ∧ wr = u3) (fun vk _ => s.size - (intOf vk).toNat)
                      case atStart => exact ⟨i + 1, [], by go_num, by omega, by omega, Lib.hid (RunS.start s i), rfl⟩
                      case round =>
                        obtain ⟨k, mid, rfl, hik, hkn, RS, hv⟩ := hrel
                        obtain rfl := hv.symm
                        clear hv
                        by_cases hkl : k < s.size
                        · have k0 : (k : Int) < s.size := by omega
                          have k1 : (0 : Int) ≤ k := by omega
                          have wk : IntKind.i64.wrap ((k : Int) + 1) = k + 1 := by rw [IntKind.wrap_i64]; omega
                          have Q1 := Lib.hid (fun w => rlet_any s[k] w)
                          have Q2 := Lib.hid (fun w => rdig_any s[k] w)
                          obtain ⟨p, hp⟩ : ∃ p, letB s[k] = p := ⟨_, rfl⟩
                          obtain ⟨q, hq⟩ : ∃ q, digB s[k] = q := ⟨_, rfl⟩
                          rw [hp] at Q1
                          rw [hq] at Q2
                          have han : anB s[k] = (p || q) := by rw [← hp, ← hq]; rfl
                          clear hp hq
                          go_wp2_with fail
                          refine (Q1.out _).mono ?_; rintro e a1 ⟨rfl, rfl⟩
                          go_wp2_with fail
                          refine (Q2.out _).mono ?_; rintro e a2 ⟨rfl, rfl⟩
                          by_cases hpq : (p || q) = true
                          · rw [hpq] at han
                            have RS2 := Lib.hid (RS.out.next hik hkl han)
                            cases p <;> cases q
                            · cases hpq
                            · go_wp2_with fail
                              go_roundw
                              case rel => exact ⟨k + 1, _, by go_num, by omega, by omega, RS2, trivial⟩
                              case measure => simp only [intOf]; omega
                            · go_wp2_with fail
                              go_roundw
                              case rel => exact ⟨k + 1, _, by go_num, by omega, by omega, RS2, trivial⟩
                              case measure => simp only [intOf]; omega
                            · go_wp2_with fail
                              go_roundw
                              case rel => exact ⟨k + 1, _, by go_num, by omega, by omega, RS2, trivial⟩
                              case measure => simp only [intOf]; omega
                          · have hst : Stops (s.data.toList.drop k) := fun c q hc => by
                              rw [get_drop s k hkl] at hc
                              injection hc with hc _
                              rw [← hc, han]
                              simpa using hpq
                            have hpf : p = false := by cases p; rfl; exact absurd rfl hpq
                            have hqf : q = false := by cases q; rfl; exact absurd (by simp) hpq
                            subst hpf hqf
                            have hR := HRc.out
                            clear HRc Q1 Q2 han hpq
                            obtain ⟨x1, x2, x3⟩ := RS.out.ends hps hik hkn hst
                            have hTk := HT.out
                            rw [lexF_run hbeg] at hTk
                            unfold runR at hTk
                            rw [x2, x3] at hTk
                            simp only [List.singleton_append] at hTk
                            have hrt : RunT (s.extract i k).data.toList := by rw [x1]; exact ⟨s[i], mid, rfl, RS.out.all, hh⟩
                            have hsz : (s.extract i k).size ≤ 281474976710656 := by rw [ByteArray.size_extract]; omega
                            have HK := rtok_any (s.extract i k) hsz a2 hrt (run_two x1 x2 hbeg)
                            have etx : s.extract i k = ⟨(s[i] :: mid).toArray⟩ := by apply ByteArray.ext; apply Array.toList_inj.1; exact x1
                            have hml : (s[i] :: mid).length = k - i := by rw [List.length_cons, RS.out.len]; omega
                            rw [x1, etx] at HK
                            clear x1 x2 x3 hrt hsz
                            generalize s[i] :: mid = tt at HK hTk etx hml
                            replace HK := Lib.hid HK
                            have n0 : (0 : Int) ≤ i := by omega
                            have n1 : (i : Int) ≤ k := by omega
                            have n2 : (k : Int) ≤ s.size := by omega
                            obtain ⟨er, kd, nm, htk⟩ : ∃ er kd nm, tokenL tt = (er, kd, nm) := ⟨_, _, _, rfl⟩
                            rw [htk] at HK hTk
                            simp only at HK hTk
                            clear htk RS
                            by_cases he : er = 0
                            · subst he
                              rw [if_pos rfl] at hTk
                              rw [if_pos rfl] at HK
                              rw [LexR.pre_cons] at hTk
                              have HT2 := Lib.hid hTk
                              clear hTk
                              go_wp2_with fail
                              refine HK.out.mono ?_; rintro e u9 ⟨rfl, hb9⟩
                              have hR9 := hR.below hb9
                              clear hb9 hR etx
                              have wa : IntKind.i64.wrap ((col : Int) + k) = (col : Int) + k := by rw [IntKind.wrap_i64]; omega
                              have wb : IntKind.i64.wrap ((col : Int) + k - i) = (col : Int) + k - i := by rw [IntKind.wrap_i64]; omega
                              have hWs : (u9.alloc (.cells #[.int .i64 kd, .string ⟨tt.toArray⟩, .int .i64 nm, .int .i64 line, .int .i64 col] 77)).heap.size = u9.heap.size + 1 := by simp only [World.alloc, Array.size_push]
                              have N : Blk ((u9.alloc (.cells #[.int .i64 kd, .string ⟨tt.toArray⟩, .int .i64 nm, .int .i64 line, .int .i64 col] 77)).alloc (.cells #[.int .i64 kd, .string ⟨tt.toArray⟩, .int .i64 nm, .int .i64 line, .int .i64 col] 77)) ((u9.alloc (.cells #[.int .i64 kd, .string ⟨tt.toArray⟩, .int .i64 nm, .int .i64 line, .int .i64 col] 77)).heap.size) 77 #[.int .i64 kd, .string ⟨tt.toArray⟩, .int .i64 nm, .int .i64 line, .int .i64 col] := Blk.new _ _ _
                              obtain ⟨D, d, X, hrun, hR2⟩ := ((hR9.below (bl_alloc (Below.refl _ _) (.cells #[.int .i64 kd, .string ⟨tt.toArray⟩, .int .i64 nm, .int .i64 line, .int .i64 col] 77))).below (bl_alloc (Below.refl _ _) (.cells #[.int .i64 kd, .string ⟨tt.toArray⟩, .int .i64 nm, .int .i64 line, .int .i64 col] 77))).app (by omega) (x := ⟨kd, tt, nm, line, col⟩) (ty := 66) N
                              rw [hWs] at hrun
                              go_wp2_with (at_builtin; refine list_app rfl (.tmp 150) (.tmp 152) 66 66 rfl (by exact hrun) ?_)
                              go_roundw
                              case rel => exact ⟨k, l ++ [⟨kd, tt, nm, line, col⟩], line, col + tt.length, false, rfl, trivial, rfl, by (show Value.int .i64 ((col : Int) + k - i) = _); (congr 1; omega), rfl, hR2, HT2.out, by omega, by (rw [List.length_append]; simp; omega), by omega, by omega⟩
                              case measure => simp only [intOf]; omega
                            · rw [if_neg he] at hTk HK
                              have hne : (er == 0) = false := by simpa using he
                              have hTE : T = .err line col er := hTk
                              go_wp2_with fail
                              refine HK.out.mono ?_; rintro e u9 ⟨rfl, hb9⟩
                              replace hR := (hR.below hb9).below (bl_alloc (Below.refl _ _) (.cells #[.int .i64 kd, .string ⟨#[]⟩, .int .i64 nm, .int .i64 0, .int .i64 0] 77))
                              clear hb9 hTk HK etx
                              have EB := hR.pc
                              have EL := hR.bl
                              have eb_z : w.heap.size < (u9.alloc (.cells #[.int .i64 kd, .string ⟨#[]⟩, .int .i64 nm, .int .i64 0, .int .i64 0] 77)).heap.size := EB.lt
                              have eb_c0 : (u9.alloc (.cells #[.int .i64 kd, .string ⟨#[]⟩, .int .i64 nm, .int .i64 0, .int .i64 0] 77)).cell? ⟨w.heap.size, 0, none⟩ = some (.int .i64 0) := (EB.cell 0).trans rfl
                              have eb_f0 := EB.frozen 0
                              have eb_c1 : (u9.alloc (.cells #[.int .i64 kd, .string ⟨#[]⟩, .int .i64 nm, .int .i64 0, .int .i64 0] 77)).cell? ⟨w.heap.size, 1, none⟩ = some (.int .i64 0) := (EB.cell 1).trans rfl
                              have eb_f1 := EB.frozen 1
                              go_wp2_with fail
                              have EB2 : Blk (((u9.alloc (.cells #[.int .i64 kd, .string ⟨#[]⟩, .int .i64 nm, .int .i64 0, .int .i64 0] 77)).setCell ⟨w.heap.size, 0, none⟩ (.int .i64 line)).setCell ⟨w.heap.size, 1, none⟩ (.int .i64 col)) w.heap.size 37 #[.int .i64 line, .int .i64 col] := (EB.put 0 _ rfl).put 1 _ rfl
                              have EL2 := bl_set (bl_set EL (p := ⟨w.heap.size, 0, none⟩) (Nat.le_refl _) (.int .i64 line)) (p := ⟨w.heap.size, 1, none⟩) (Nat.le_refl _) (.int .i64 col)
                              clear EB EL hR eb_z eb_c0 eb_f0 eb_c1 eb_f1
                              generalize ((u9.alloc (.cells #[.int .i64 kd, .string ⟨#[]⟩, .int .i64 nm, .int .i64 0, .int .i64 0] 77)).setCell ⟨w.heap.size, 0, none⟩ (.int .i64 line)).setCell ⟨w.heap.size, 1, none⟩ (.int .i64 col) = V at EB2 EL2 ⊢
                              have fb_z : w.heap.size < V.heap.size := EB2.lt
                              have fb_c0 : V.cell? ⟨w.heap.size, 0, none⟩ = some (.int .i64 line) := (EB2.cell 0).trans rfl
                              have fb_f0 := EB2.frozen 0
                              have fb_c1 : V.cell? ⟨w.heap.size, 1, none⟩ = some (.int .i64 col) := (EB2.cell 1).trans rfl
                              have fb_f1 := EB2.frozen 1
                              refine bodyPost_ret (v := .tuple #[.slice none 0 0, .agg #[.int .i64 line, .int .i64 col], .int .i64 er]) (by simp [results, Tryd.results22, go_sem, fb_z, fb_c0, fb_f0, fb_c1, fb_f1]) rfl (rpost_err hTE EL2)
                        · have hst : Stops (s.data.toList.drop k) := fun c q hc => by
                            rw [List.drop_eq_nil_of_le (by rw [← Lib.size_eq]; omega)] at hc
                            cases hc
                          have k0 : ¬ (k : Int) < s.size := by omega
                          have hR := HRc.out
                          clear HRc hkl
                          obtain ⟨x1, x2, x3⟩ := RS.out.ends hps hik hkn hst
                          have hTk := HT.out
                          rw [lexF_run hbeg] at hTk
                          unfold runR at hTk
                          rw [x2, x3] at hTk
                          simp only [List.singleton_append] at hTk
                          have hrt : RunT (s.extract i k).data.toList := by rw [x1]; exact ⟨s[i], mid, rfl, RS.out.all, hh⟩
                          have hsz : (s.extract i k).size ≤ 281474976710656 := by rw [ByteArray.size_extract]; omega
                          have HK := rtok_any (s.extract i k) hsz u3 hrt (run_two x1 x2 hbeg)
                          have etx : s.extract i k = ⟨(s[i] :: mid).toArray⟩ := by apply ByteArray.ext; apply Array.toList_inj.1; exact x1
                          have hml : (s[i] :: mid).length = k - i := by rw [List.length_cons, RS.out.len]; omega
                          rw [x1, etx] at HK
                          clear x1 x2 x3 hrt hsz
                          generalize s[i] :: mid = tt at HK hTk etx hml
                          replace HK := Lib.hid HK
                          have n0 : (0 : Int) ≤ i := by omega
                          have n1 : (i : Int) ≤ k := by omega
                          have n2 : (k : Int) ≤ s.size := by omega
                          obtain ⟨er, kd, nm, htk⟩ : ∃ er kd nm, tokenL tt = (er, kd, nm) := ⟨_, _, _, rfl⟩
                          rw [htk] at HK hTk
                          simp only at HK hTk
                          clear htk RS
                          by_cases he : er = 0
                          · subst he
                            rw [if_pos rfl] at hTk
                            rw [if_pos rfl] at HK
                            rw [LexR.pre_cons] at hTk
                            have HT2 := Lib.hid hTk
                            clear hTk
                            go_wp2_with fail
                            refine HK.out.mono ?_; rintro e u9 ⟨rfl, hb9⟩
                            have hR9 := hR.below hb9
                            clear hb9 hR etx
                            have wa : IntKind.i64.wrap ((col : Int) + k) = (col : Int) + k := by rw [IntKind.wrap_i64]; omega
                            have wb : IntKind.i64.wrap ((col : Int) + k - i) = (col : Int) + k - i := by rw [IntKind.wrap_i64]; omega
                            have hWs : (u9.alloc (.cells #[.int .i64 kd, .string ⟨tt.toArray⟩, .int .i64 nm, .int .i64 line, .int .i64 col] 77)).heap.size = u9.heap.size + 1 := by simp only [World.alloc, Array.size_push]
                            have N : Blk ((u9.alloc (.cells #[.int .i64 kd, .string ⟨tt.toArray⟩, .int .i64 nm, .int .i64 line, .int .i64 col] 77)).alloc (.cells #[.int .i64 kd, .string ⟨tt.toArray⟩, .int .i64 nm, .int .i64 line, .int .i64 col] 77)) ((u9.alloc (.cells #[.int .i64 kd, .string ⟨tt.toArray⟩, .int .i64 nm, .int .i64 line, .int .i64 col] 77)).heap.size) 77 #[.int .i64 kd, .string ⟨tt.toArray⟩, .int .i64 nm, .int .i64 line, .int .i64 col] := Blk.new _ _ _
                            obtain ⟨D, d, X, hrun, hR2⟩ := ((hR9.below (bl_alloc (Below.refl _ _) (.cells #[.int .i64 kd, .string ⟨tt.toArray⟩, .int .i64 nm, .int .i64 line, .int .i64 col] 77))).below (bl_alloc (Below.refl _ _) (.cells #[.int .i64 kd, .string ⟨tt.toArray⟩, .int .i64 nm, .int .i64 line, .int .i64 col] 77))).app (by omega) (x := ⟨kd, tt, nm, line, col⟩) (ty := 66) N
                            rw [hWs] at hrun
                            go_wp2_with (at_builtin; refine list_app rfl (.tmp 150) (.tmp 152) 66 66 rfl (by exact hrun) ?_)
                            go_roundw
                            case rel => exact ⟨k, l ++ [⟨kd, tt, nm, line, col⟩], line, col + tt.length, false, rfl, trivial, rfl, by (show Value.int .i64 ((col : Int) + k - i) = _); (congr 1; omega), rfl, hR2, HT2.out, by omega, by (rw [List.length_append]; simp; omega), by omega, by omega⟩
                            case measure => simp only [intOf]; omega
                          · rw [if_neg he] at hTk HK
                            have hne : (er == 0) = false := by simpa using he
                            have hTE : T = .err line col er := hTk
                            go_wp2_with fail
                            refine HK.out.mono ?_; rintro e u9 ⟨rfl, hb9⟩
                            replace hR := (hR.below hb9).below (bl_alloc (Below.refl _ _) (.cells #[.int .i64 kd, .string ⟨#[]⟩, .int .i64 nm, .int .i64 0, .int .i64 0] 77))
                            clear hb9 hTk HK etx
                            have EB := hR.pc
                            have EL := hR.bl
                            have eb_z : w.heap.size < (u9.alloc (.cells #[.int .i64 kd, .string ⟨#[]⟩, .int .i64 nm, .int .i64 0, .int .i64 0] 77)).heap.size := EB.lt
                            have eb_c0 : (u9.alloc (.cells #[.int .i64 kd, .string ⟨#[]⟩, .int .i64 nm, .int .i64 0, .int .i64 0] 77)).cell? ⟨w.heap.size, 0, none⟩ = some (.int .i64 0) := (EB.cell 0).trans rfl
                            have eb_f0 := EB.frozen 0
                            have eb_c1 : (u9.alloc (.cells #[.int .i64 kd, .string ⟨#[]⟩, .int .i64 nm, .int .i64 0, .int .i64 0] 77)).cell? ⟨w.heap.size, 1, none⟩ = some (.int .i64 0) := (EB.cell 1).trans rfl
                            have eb_f1 := EB.frozen 1
                            go_wp2_with fail
                            have EB2 : Blk (((u9.alloc (.cells #[.int .i64 kd, .string ⟨#[]⟩, .int .i64 nm, .int .i64 0, .int .i64 0] 77)).setCell ⟨w.heap.size, 0, none⟩ (.int .i64 line)).setCell ⟨w.heap.size, 1, none⟩ (.int .i64 col)) w.heap.size 37 #[.int .i64 line, .int .i64 col] := (EB.put 0 _ rfl).put 1 _ rfl
                            have EL2 := bl_set (bl_set EL (p := ⟨w.heap.size, 0, none⟩) (Nat.le_refl _) (.int .i64 line)) (p := ⟨w.heap.size, 1, none⟩) (Nat.le_refl _) (.int .i64 col)
                            clear EB EL hR eb_z eb_c0 eb_f0 eb_c1 eb_f1
                            generalize ((u9.alloc (.cells #[.int .i64 kd, .string ⟨#[]⟩, .int .i64 nm, .int .i64 0, .int .i64 0] 77)).setCell ⟨w.heap.size, 0, none⟩ (.int .i64 line)).setCell ⟨w.heap.size, 1, none⟩ (.int .i64 col) = V at EB2 EL2 ⊢
                            have fb_z : w.heap.size < V.heap.size := EB2.lt
                            have fb_c0 : V.cell? ⟨w.heap.size, 0, none⟩ = some (.int .i64 line) := (EB2.cell 0).trans rfl
                            have fb_f0 := EB2.frozen 0
                            have fb_c1 : V.cell? ⟨w.heap.size, 1, none⟩ = some (.int .i64 col) := (EB2.cell 1).trans rfl
                            have fb_f1 := EB2.frozen 1
                            refine bodyPost_ret (v := .tuple #[.slice none 0 0, .agg #[.int .i64 line, .int .i64 col], .int .i64 er]) (by simp [results, Tryd.results22, go_sem, fb_z, fb_c0, fb_f0, fb_c1, fb_f1]) rfl (rpost_err hTE EL2)
                    · clear hbb
                      go_wp2_with fail
                      refine (HP.out _).mono ?_; rintro e u1 ⟨rfl, rfl⟩
                      go_wp2_with fail
                      refine (HL.out _).mono ?_; rintro e u2 ⟨rfl, rfl⟩
                      go_wp2_with fail
                      refine (HD.out _).mono ?_; rintro e u3 ⟨rfl, rfl⟩
                      go_wp2_with fail
                      have HRc := Lib.hid hR
                      clear hR
                      go_loopw [14] (fun vk wr => ∃ (k : Nat) (mid : List UInt8), vk = .int .i64 k ∧ i + 1 ≤ k ∧ k ≤ s.size ∧ Hid (RunS s i k mid) ∧ wr = u3) (fun vk _ => s.size - (intOf vk).toNat)
                      case atStart => exact ⟨i + 1, [], by go_num, by omega, by omega, Lib.hid (RunS.start s i), rfl⟩
                      case round =>
                        obtain ⟨k, mid, rfl, hik, hkn, RS, hv⟩ := hrel
                        obtain rfl := hv.symm
                        clear hv
                        by_cases hkl : k < s.size
                        · have k0 : (k : Int) < s.size := by omega
                          have k1 : (0 : Int) ≤ k := by omega
                          have wk : IntKind.i64.wrap ((k : Int) + 1) = k + 1 := by rw [IntKind.wrap_i64]; omega
                          have Q1 := Lib.hid (fun w => rlet_any s[k] w)
                          have Q2 := Lib.hid (fun w => rdig_any s[k] w)
                          obtain ⟨p, hp⟩ : ∃ p, letB s[k] = p := ⟨_, rfl⟩
                          obtain ⟨q, hq⟩ : ∃ q, digB s[k] = q := ⟨_, rfl⟩
                          rw [hp] at Q1
                          rw [hq] at Q2
                          have han : anB s[k] = (p || q) := by rw [← hp, ← hq]; rfl
                          clear hp hq
                          go_wp2_with fail
                          refine (Q1.out _).mono ?_; rintro e a1 ⟨rfl, rfl⟩
                          go_wp2_with fail
                          refine (Q2.out _).mono ?_; rintro e a2 ⟨rfl, rfl⟩
                          by_cases hpq : (p || q) = true
                          · rw [hpq] at han
                            have RS2 := Lib.hid (RS.out.next hik hkl han)
                            cases p <;> cases q
                            · cases hpq
                            · go_wp2_with fail
                              go_roundw
                              case rel => exact ⟨k + 1, _, by go_num, by omega, by omega, RS2, trivial⟩
                              case measure => simp only [intOf]; omega
                            · go_wp2_with fail
                              go_roundw
                              case rel => exact ⟨k + 1, _, by go_num, by omega, by omega, RS2, trivial⟩
                              case measure => simp only [intOf]; omega
                            · go_wp2_with fail
                              go_roundw
                              case rel => exact ⟨k + 1, _, by go_num, by omega, by omega, RS2, trivial⟩
                              case measure => simp only [intOf]; omega
                          · have hst : Stops (s.data.toList.drop k) := fun c q hc => by
                              rw [get_drop s k hkl] at hc
                              injection hc with hc _
                              rw [← hc, han]
                              simpa using hpq
                            have hpf : p = false := by cases p; rfl; exact absurd rfl hpq
                            have hqf : q = false := by cases q; rfl; exact absurd (by simp) hpq
                            subst hpf hqf
                            have hR := HRc.out
                            clear HRc Q1 Q2 han hpq
                            obtain ⟨x1, x2, x3⟩ := RS.out.ends hps hik hkn hst
                            have hTk := HT.out
                            rw [lexF_run hbeg] at hTk
                            unfold runR at hTk
                            rw [x2, x3] at hTk
                            simp only [List.singleton_append] at hTk
                            have hrt : RunT (s.extract i k).data.toList := by rw [x1]; exact ⟨s[i], mid, rfl, RS.out.all, hh⟩
                            have hsz : (s.extract i k).size ≤ 281474976710656 := by rw [ByteArray.size_extract]; omega
                            have HK := rtok_any (s.extract i k) hsz a2 hrt (run_two x1 x2 hbeg)
                            have etx : s.extract i k = ⟨(s[i] :: mid).toArray⟩ := by apply ByteArray.ext; apply Array.toList_inj.1; exact x1
                            have hml : (s[i] :: mid).length = k - i := by rw [List.length_cons, RS.out.len]; omega
                            rw [x1, etx] at HK
                            clear x1 x2 x3 hrt hsz
                            generalize s[i] :: mid = tt at HK hTk etx hml
                            replace HK := Lib.hid HK
                            have n0 : (0 : Int) ≤ i := by omega
                            have n1 : (i : Int) ≤ k := by omega
                            have n2 : (k : Int) ≤ s.size := by omega
                            obtain ⟨er, kd, nm, htk⟩ : ∃ er kd nm, tokenL tt = (er, kd, nm) := ⟨_, _, _, rfl⟩
                            rw [htk] at HK hTk
                            simp only at HK hTk
                            clear htk RS
                            by_cases he : er = 0
                            · subst he
                              rw [if_pos rfl] at hTk
                              rw [if_pos rfl] at HK
                              rw [LexR.pre_cons] at hTk
                              have HT2 := Lib.hid hTk
                              clear hTk
                              go_wp2_with fail
                              refine HK.out.mono ?_; rintro e u9 ⟨rfl, hb9⟩
                              have hR9 := hR.below hb9
                              clear hb9 hR etx
                              have wa : IntKind.i64.wrap ((col : Int) + k) = (col : Int) + k := by rw [IntKind.wrap_i64]; omega
                              have wb : IntKind.i64.wrap ((col : Int) + k - i) = (col : Int) + k - i := by rw [IntKind.wrap_i64]; omega
                              have hWs : (u9.alloc (.cells #[.int .i64 kd, .string ⟨tt.toArray⟩, .int .i64 nm, .int .i64 line, .int .i64 col] 77)).heap.size = u9.heap.size + 1 := by simp only [World.alloc, Array.size_push]
                              have N : Blk ((u9.alloc (.cells #[.int .i64 kd, .string ⟨tt.toArray⟩, .int .i64 nm, .int .i64 line, .int .i64 col] 77)).alloc (.cells #[.int .i64 kd, .string ⟨tt.toArray⟩, .int .i64 nm, .int .i64 line, .int .i64 col] 77)) ((u9.alloc (.cells #[.int .i64 kd, .string ⟨tt.toArray⟩, .int .i64 nm, .int .i64 line, .int .i64 col] 77)).heap.size) 77 #[.int .i64 kd, .string ⟨tt.toArray⟩, .int .i64 nm, .int .i64 line, .int .i64 col] := Blk.new _ _ _
                              obtain ⟨D, d, X, hrun, hR2⟩ := ((hR9.below (bl_alloc (Below.refl _ _) (.cells #[.int .i64 kd, .string ⟨tt.toArray⟩, .int .i64 nm, .int .i64 line, .int .i64 col] 77))).below (bl_alloc (Below.refl _ _) (.cells #[.int .i64 kd, .string ⟨tt.toArray⟩, .int .i64 nm, .int .i64 line, .int .i64 col] 77))).app (by omega) (x := ⟨kd, tt, nm, line, col⟩) (ty := 66) N
                              rw [hWs] at hrun
                              go_wp2_with (at_builtin; refine list_app rfl (.tmp 150) (.tmp 152) 66 66 rfl (by exact hrun) ?_)
                              go_roundw
                              case rel => exact ⟨k, l ++ [⟨kd, tt, nm, line, col⟩], line, col + tt.length, false, rfl, trivial, rfl, by (show Value.int .i64 ((col : Int) + k - i) = _); (congr 1; omega), rfl, hR2, HT2.out, by omega, by (rw [List.length_append]; simp; omega), by omega, by omega⟩
                              case measure => simp only [intOf]; omega
                            · rw [if_neg he] at hTk HK
                              have hne : (er == 0) = false := by simpa using he
                              have hTE : T = .err line col er := hTk
                              go_wp2_with fail
                              refine HK.out.mono ?_; rintro e u9 ⟨rfl, hb9⟩
                              replace hR := (hR.below hb9).below (bl_alloc (Below.refl _ _) (.cells #[.int .i64 kd, .string ⟨#[]⟩, .int .i64 nm, .int .i64 0, .int .i64 0] 77))
                              clear hb9 hTk HK etx
                              have EB := hR.pc
                              have EL := hR.bl
                              have eb_z : w.heap.size < (u9.alloc (.cells #[.int .i64 kd, .string ⟨#[]⟩, .int .i64 nm, .int .i64 0, .int .i64 0] 77)).heap.size := EB.lt
                              have eb_c0 : (u9.alloc (.cells #[.int .i64 kd, .string ⟨#[]⟩, .int .i64 nm, .int .i64 0, .int .i64 0] 77)).cell? ⟨w.heap.size, 0, none⟩ = some (.int .i64 0) := (EB.cell 0).trans rfl
                              have eb_f0 := EB.frozen 0
                              have eb_c1 : (u9.alloc (.cells #[.int .i64 kd, .string ⟨#[]⟩, .int .i64 nm, .int .i64 0, .int .i64 0] 77)).cell? ⟨w.heap.size, 1, none⟩ = some (.int .i64 0) := (EB.cell 1).trans rfl
                              have eb_f1 := EB.frozen 1
                              go_wp2_with fail
                              have EB2 : Blk (((u9.alloc (.cells #[.int .i64 kd, .string ⟨#[]⟩, .int .i64 nm, .int .i64 0, .int .i64 0] 77)).setCell ⟨w.heap.size, 0, none⟩ (.int .i64 line)).setCell ⟨w.heap.size, 1, none⟩ (.int .i64 col)) w.heap.size 37 #[.int .i64 line, .int .i64 col] := (EB.put 0 _ rfl).put 1 _ rfl
                              have EL2 := bl_set (bl_set EL (p := ⟨w.heap.size, 0, none⟩) (Nat.le_refl _) (.int .i64 line)) (p := ⟨w.heap.size, 1, none⟩) (Nat.le_refl _) (.int .i64 col)
                              clear EB EL hR eb_z eb_c0 eb_f0 eb_c1 eb_f1
                              generalize ((u9.alloc (.cells #[.int .i64 kd, .string ⟨#[]⟩, .int .i64 nm, .int .i64 0, .int .i64 0] 77)).setCell ⟨w.heap.size, 0, none⟩ (.int .i64 line)).setCell ⟨w.heap.size, 1, none⟩ (.int .i64 col) = V at EB2 EL2 ⊢
                              have fb_z : w.heap.size < V.heap.size := EB2.lt
                              have fb_c0 : V.cell? ⟨w.heap.size, 0, none⟩ = some (.int .i64 line) := (EB2.cell 0).trans rfl
                              have fb_f0 := EB2.frozen 0
                              have fb_c1 : V.cell? ⟨w.heap.size, 1, none⟩ = some (.int .i64 col) := (EB2.cell 1).trans rfl
                              have fb_f1 := EB2.frozen 1
                              refine bodyPost_ret (v := .tuple #[.slice none 0 0, .agg #[.int .i64 line, .int .i64 col], .int .i64 er]) (by simp [results, Tryd.results22, go_sem, fb_z, fb_c0, fb_f0, fb_c1, fb_f1]) rfl (rpost_err hTE EL2)
                        · have hst : Stops (s.data.toList.drop k) := fun c q hc => by
                            rw [List.drop_eq_nil_of_le (by rw [← Lib.size_eq]; omega)] at hc
                            cases hc
                          have k0 : ¬ (k : Int) < s.size := by omega
                          have hR := HRc.out
                          clear HRc hkl
                          obtain ⟨x1, x2, x3⟩ := RS.out.ends hps hik hkn hst
                          have hTk := HT.out
                          rw [lexF_run hbeg] at hTk
                          unfold runR at hTk
                          rw [x2, x3] at hTk
                          simp only [List.singleton_append] at hTk
                          have hrt : RunT (s.extract i k).data.toList := by rw [x1]; exact ⟨s[i], mid, rfl, RS.out.all, hh⟩
                          have hsz : (s.extract i k).size ≤ 281474976710656 := by rw [ByteArray.size_extract]; omega
                          have HK := rtok_any (s.extract i k) hsz u3 hrt (run_two x1 x2 hbeg)
                          have etx : s.extract i k = ⟨(s[i] :: mid).toArray⟩ := by apply ByteArray.ext; apply Array.toList_inj.1; exact x1
                          have hml : (s[i] :: mid).length = k - i := by rw [List.length_cons, RS.out.len]; omega
                          rw [x1, etx] at HK
                          clear x1 x2 x3 hrt hsz
                          generalize s[i] :: mid = tt at HK hTk etx hml
                          replace HK := Lib.hid HK
                          have n0 : (0 : Int) ≤ i := by omega
                          have n1 : (i : Int) ≤ k := by omega
                          have n2 : (k : Int) ≤ s.size := by omega
                          obtain ⟨er, kd, nm, htk⟩ : ∃ er kd nm, tokenL tt = (er, kd, nm) := ⟨_, _, _, rfl⟩
                          rw [htk] at HK hTk
                          simp only at HK hTk
                          clear htk RS
                          by_cases he : er = 0
                          · subst he
                            rw [if_pos rfl] at hTk
                            rw [if_pos rfl] at HK
                            rw [LexR.pre_cons] at hTk
                            have HT2 := Lib.hid hTk
                            clear hTk
                            go_wp2_with fail
                            refine HK.out.mono ?_; rintro e u9 ⟨rfl, hb9⟩
                            have hR9 := hR.below hb9
                            clear hb9 hR etx
                            have wa : IntKind.i64.wrap ((col : Int) + k) = (col : Int) + k := by rw [IntKind.wrap_i64]; omega
                            have wb : IntKind.i64.wrap ((col : Int) + k - i) = (col : Int) + k - i := by rw [IntKind.wrap_i64]; omega
                            have hWs : (u9.alloc (.cells #[.int .i64 kd, .string ⟨tt.toArray⟩, .int .i64 nm, .int .i64 line, .int .i64 col] 77)).heap.size = u9.heap.size + 1 := by simp only [World.alloc, Array.size_push]
                            have N : Blk ((u9.alloc (.cells #[.int .i64 kd, .string ⟨tt.toArray⟩, .int .i64 nm, .int .i64 line, .int .i64 col] 77)).alloc (.cells #[.int .i64 kd, .string ⟨tt.toArray⟩, .int .i64 nm, .int .i64 line, .int .i64 col] 77)) ((u9.alloc (.cells #[.int .i64 kd, .string ⟨tt.toArray⟩, .int .i64 nm, .int .i64 line, .int .i64 col] 77)).heap.size) 77 #[.int .i64 kd, .string ⟨tt.toArray⟩, .int .i64 nm, .int .i64 line, .int .i64 col] := Blk.new _ _ _
                            obtain ⟨D, d, X, hrun, hR2⟩ := ((hR9.below (bl_alloc (Below.refl _ _) (.cells #[.int .i64 kd, .string ⟨tt.toArray⟩, .int .i64 nm, .int .i64 line, .int .i64 col] 77))).below (bl_alloc (Below.refl _ _) (.cells #[.int .i64 kd, .string ⟨tt.toArray⟩, .int .i64 nm, .int .i64 line, .int .i64 col] 77))).app (by omega) (x := ⟨kd, tt, nm, line, col⟩) (ty := 66) N
                            rw [hWs] at hrun
                            go_wp2_with (at_builtin; refine list_app rfl (.tmp 150) (.tmp 152) 66 66 rfl (by exact hrun) ?_)
                            go_roundw
                            case rel => exact ⟨k, l ++ [⟨kd, tt, nm, line, col⟩], line, col + tt.length, false, rfl, trivial, rfl, by (show Value.int .i64 ((col : Int) + k - i) = _); (congr 1; omega), rfl, hR2, HT2.out, by omega, by (rw [List.length_append]; simp; omega), by omega, by omega⟩
                            case measure => simp only [intOf]; omega
                          · rw [if_neg he] at hTk HK
                            have hne : (er == 0) = false := by simpa using he
                            have hTE : T = .err line col er := hTk
                            go_wp2_with fail
                            refine HK.out.mono ?_; rintro e u9 ⟨rfl, hb9⟩
                            replace hR := (hR.below hb9).below (bl_alloc (Below.refl _ _) (.cells #[.int .i64 kd, .string ⟨#[]⟩, .int .i64 nm, .int .i64 0, .int .i64 0] 77))
                            clear hb9 hTk HK etx
                            have EB := hR.pc
                            have EL := hR.bl
                            have eb_z : w.heap.size < (u9.alloc (.cells #[.int .i64 kd, .string ⟨#[]⟩, .int .i64 nm, .int .i64 0, .int .i64 0] 77)).heap.size := EB.lt
                            have eb_c0 : (u9.alloc (.cells #[.int .i64 kd, .string ⟨#[]⟩, .int .i64 nm, .int .i64 0, .int .i64 0] 77)).cell? ⟨w.heap.size, 0, none⟩ = some (.int .i64 0) := (EB.cell 0).trans rfl
                            have eb_f0 := EB.frozen 0
                            have eb_c1 : (u9.alloc (.cells #[.int .i64 kd, .string ⟨#[]⟩, .int .i64 nm, .int .i64 0, .int .i64 0] 77)).cell? ⟨w.heap.size, 1, none⟩ = some (.int .i64 0) := (EB.cell 1).trans rfl
                            have eb_f1 := EB.frozen 1
                            go_wp2_with fail
                            have EB2 : Blk (((u9.alloc (.cells #[.int .i64 kd, .string ⟨#[]⟩, .int .i64 nm, .int .i64 0, .int .i64 0] 77)).setCell ⟨w.heap.size, 0, none⟩ (.int .i64 line)).setCell ⟨w.heap.size, 1, none⟩ (.int .i64 col)) w.heap.size 37 #[.int .i64 line, .int .i64 col] := (EB.put 0 _ rfl).put 1 _ rfl
                            have EL2 := bl_set (bl_set EL (p := ⟨w.heap.size, 0, none⟩) (Nat.le_refl _) (.int .i64 line)) (p := ⟨w.heap.size, 1, none⟩) (Nat.le_refl _) (.int .i64 col)
                            clear EB EL hR eb_z eb_c0 eb_f0 eb_c1 eb_f1
                            generalize ((u9.alloc (.cells #[.int .i64 kd, .string ⟨#[]⟩, .int .i64 nm, .int .i64 0, .int .i64 0] 77)).setCell ⟨w.heap.size, 0, none⟩ (.int .i64 line)).setCell ⟨w.heap.size, 1, none⟩ (.int .i64 col) = V at EB2 EL2 ⊢
                            have fb_z : w.heap.size < V.heap.size := EB2.lt
                            have fb_c0 : V.cell? ⟨w.heap.size, 0, none⟩ = some (.int .i64 line) := (EB2.cell 0).trans rfl
                            have fb_f0 := EB2.frozen 0
                            have fb_c1 : V.cell? ⟨w.heap.size, 1, none⟩ = some (.int .i64 col) := (EB2.cell 1).trans rfl
                            have fb_f1 := EB2.frozen 1
                            refine bodyPost_ret (v := .tuple #[.slice none 0 0, .agg #[.int .i64 line, .int .i64 col], .int .i64 er]) (by simp [results, Tryd.results22, go_sem, fb_z, fb_c0, fb_f0, fb_c1, fb_f1]) rfl (rpost_err hTE EL2)
                · have hbf : begB (s[i] :: s.data.toList.drop (i + 1)) = false := by simpa using hbeg
                  rw [hbf] at hbb
                  rw [lexF_none hp' c10 cw c58 hbf] at hT
                  have hTE : T = .err line col 20 := hT
                  have hpl2 : pl = false := by cases pl; rfl; simp at hbb
                  subst hpl2
                  clear hT hK hp' hdK hbeg hbf
                  by_cases c45 : s[i].toNat = 45
                  · have e45 : ((s[i].toNat : Int) == 45) = true := by simp; omega
                    rw [if_pos c45] at hbb
                    have hpd2 : pd = false := by rw [← hpd]; simp [digB]; omega
                    subst hpd2
                    by_cases h1 : i + 1 < s.size
                    · have j1 : (i : Int) + 1 < s.size := by omega
                      rw [head_dig s _ h1] at hbb
                      have HS := Lib.hid (fun w => rdig_any s[i + 1] w)
                      obtain ⟨ps, hps2⟩ : ∃ p, digB s[i + 1] = p := ⟨_, rfl⟩
                      rw [hps2] at HS hbb
                      have hps3 : ps = false := by simpa using hbb.symm
                      subst hps3
                      clear hbb hpl hpd hps2 hdr c45
                      go_wp2_with fail
                      refine (HP.out _).mono ?_; rintro e u1 ⟨rfl, rfl⟩
                      go_wp2_with fail
                      refine (HL.out _).mono ?_; rintro e u2 ⟨rfl, rfl⟩
                      go_wp2_with fail
                      refine (HD.out _).mono ?_; rintro e u3 ⟨rfl, rfl⟩
                      go_wp2_with fail
                      refine (HS.out _).mono ?_; rintro e u4 ⟨rfl, rfl⟩
                      have EB := hR.pc
                      have EL := hR.bl
                      have eb_z : w.heap.size < u4.heap.size := EB.lt
                      have eb_c0 : u4.cell? ⟨w.heap.size, 0, none⟩ = some (.int .i64 0) := (EB.cell 0).trans rfl
                      have eb_f0 := EB.frozen 0
                      have eb_c1 : u4.cell? ⟨w.heap.size, 1, none⟩ = some (.int .i64 0) := (EB.cell 1).trans rfl
                      have eb_f1 := EB.frozen 1
                      go_wp2_with fail
                      have EB2 : Blk ((u4.setCell ⟨w.heap.size, 0, none⟩ (.int .i64 line)).setCell ⟨w.heap.size, 1, none⟩ (.int .i64 col)) w.heap.size 37 #[.int .i64 line, .int .i64 col] := (EB.put 0 _ rfl).put 1 _ rfl
                      have EL2 := bl_set (bl_set EL (p := ⟨w.heap.size, 0, none⟩) (Nat.le_refl _) (.int .i64 line)) (p := ⟨w.heap.size, 1, none⟩) (Nat.le_refl _) (.int .i64 col)
                      clear EB EL hR eb_z eb_c0 eb_f0 eb_c1 eb_f1
                      generalize (u4.setCell ⟨w.heap.size, 0, none⟩ (.int .i64 line)).setCell ⟨w.heap.size, 1, none⟩ (.int .i64 col) = V at EB2 EL2 ⊢
                      have fb_z : w.heap.size < V.heap.size := EB2.lt
                      have fb_c0 : V.cell? ⟨w.heap.size, 0, none⟩ = some (.int .i64 line) := (EB2.cell 0).trans rfl
                      have fb_f0 := EB2.frozen 0
                      have fb_c1 : V.cell? ⟨w.heap.size, 1, none⟩ = some (.int .i64 col) := (EB2.cell 1).trans rfl
                      have fb_f1 := EB2.frozen 1
                      refine bodyPost_ret (v := .tuple #[.slice none 0 0, .agg #[.int .i64 line, .int .i64 col], .int .i64 20]) (by simp [results, Tryd.results22, go_sem, fb_z, fb_c0, fb_f0, fb_c1, fb_f1]) rfl (rpost_err hTE EL2)
                    · have j1 : ¬ (i : Int) + 1 < s.size := by omega
                      clear hbb hpl hpd hdr c45
                      go_wp2_with fail
                      refine (HP.out _).mono ?_; rintro e u1 ⟨rfl, rfl⟩
                      go_wp2_with fail
                      refine (HL.out _).mono ?_; rintro e u2 ⟨rfl, rfl⟩
                      go_wp2_with fail
                      refine (HD.out _).mono ?_; rintro e u3 ⟨rfl, rfl⟩
                      have EB := hR.pc
                      have EL := hR.bl
                      have eb_z : w.heap.size < u3.heap.size := EB.lt
                      have eb_c0 : u3.cell? ⟨w.heap.size, 0, none⟩ = some (.int .i64 0) := (EB.cell 0).trans rfl
                      have eb_f0 := EB.frozen 0
                      have eb_c1 : u3.cell? ⟨w.heap.size, 1, none⟩ = some (.int .i64 0) := (EB.cell 1).trans rfl
                      have eb_f1 := EB.frozen 1
                      go_wp2_with fail
                      have EB2 : Blk ((u3.setCell ⟨w.heap.size, 0, none⟩ (.int .i64 line)).setCell ⟨w.heap.size, 1, none⟩ (.int .i64 col)) w.heap.size 37 #[.int .i64 line, .int .i64 col] := (EB.put 0 _ rfl).put 1 _ rfl
                      have EL2 := bl_set (bl_set EL (p := ⟨w.heap.size, 0, none⟩) (Nat.le_refl _) (.int .i64 line)) (p := ⟨w.heap.size, 1, none⟩) (Nat.le_refl _) (.int .i64 col)
                      clear EB EL hR eb_z eb_c0 eb_f0 eb_c1 eb_f1
                      generalize (u3.setCell ⟨w.heap.size, 0, none⟩ (.int .i64 line)).setCell ⟨w.heap.size, 1, none⟩ (.int .i64 col) = V at EB2 EL2 ⊢
                      have fb_z : w.heap.size < V.heap.size := EB2.lt
                      have fb_c0 : V.cell? ⟨w.heap.size, 0, none⟩ = some (.int .i64 line) := (EB2.cell 0).trans rfl
                      have fb_f0 := EB2.frozen 0
                      have fb_c1 : V.cell? ⟨w.heap.size, 1, none⟩ = some (.int .i64 col) := (EB2.cell 1).trans rfl
                      have fb_f1 := EB2.frozen 1
                      refine bodyPost_ret (v := .tuple #[.slice none 0 0, .agg #[.int .i64 line, .int .i64 col], .int .i64 20]) (by simp [results, Tryd.results22, go_sem, fb_z, fb_c0, fb_f0, fb_c1, fb_f1]) rfl (rpost_err hTE EL2)
                  · have e45 : ((s[i].toNat : Int) == 45) = false := by simp; omega
                    rw [if_neg c45] at hbb
                    have hpd2 : pd = false := by simpa using hbb.symm
                    subst hpd2
                    clear hbb hpl hpd hdr c45
                    go_wp2_with fail
                    refine (HP.out _).mono ?_; rintro e u1 ⟨rfl, rfl⟩
                    go_wp2_with fail
                    refine (HL.out _).mono ?_; rintro e u2 ⟨rfl, rfl⟩
                    go_wp2_with fail
                    refine (HD.out _).mono ?_; rintro e u3 ⟨rfl, rfl⟩
                    have EB := hR.pc
                    have EL := hR.bl
                    have eb_z : w.heap.size < u3.heap.size := EB.lt
                    have eb_c0 : u3.cell? ⟨w.heap.size, 0, none⟩ = some (.int .i64 0) := (EB.cell 0).trans rfl
                    have eb_f0 := EB.frozen 0
                    have eb_c1 : u3.cell? ⟨w.heap.size, 1, none⟩ = some (.int .i64 0) := (EB.cell 1).trans rfl
                    have eb_f1 := EB.frozen 1
                    go_wp2_with fail
                    have EB2 : Blk ((u3.setCell ⟨w.heap.size, 0, none⟩ (.int .i64 line)).setCell ⟨w.heap.size, 1, none⟩ (.int .i64 col)) w.heap.size 37 #[.int .i64 line, .int .i64 col] := (EB.put 0 _ rfl).put 1 _ rfl
                    have EL2 := bl_set (bl_set EL (p := ⟨w.heap.size, 0, none⟩) (Nat.le_refl _) (.int .i64 line)) (p := ⟨w.heap.size, 1, none⟩) (Nat.le_refl _) (.int .i64 col)
                    clear EB EL hR eb_z eb_c0 eb_f0 eb_c1 eb_f1
                    generalize (u3.setCell ⟨w.heap.size, 0, none⟩ (.int .i64 line)).setCell ⟨w.heap.size, 1, none⟩ (.int .i64 col) = V at EB2 EL2 ⊢
                    have fb_z : w.heap.size < V.heap.size := EB2.lt
                    have fb_c0 : V.cell? ⟨w.heap.size, 0, none⟩ = some (.int .i64 line) := (EB2.cell 0).trans rfl
                    have fb_f0 := EB2.frozen 0
                    have fb_c1 : V.cell? ⟨w.heap.size, 1, none⟩ = some (.int .i64 col) := (EB2.cell 1).trans rfl
                    have fb_f1 := EB2.frozen 1
                    refine bodyPost_ret (v := .tuple #[.slice none 0 0, .agg #[.int .i64 line, .int .i64 col], .int .i64 20]) (by simp [results, Tryd.results22, go_sem, fb_z, fb_c0, fb_f0, fb_c1, fb_f1]) rfl (rpost_err hTE EL2)
    · obtain rfl : i = s.size := by omega
      have i0 : ¬ (s.size : Int) < s.size := by omega
      rw [List.drop_eq_nil_of_le (by rw [← Lib.size_eq]; exact Nat.le_refl _), lexF_nil] at hT
      have HTE := Lib.hid (show T = .ok (l ++ [⟨3, [], 0, line, col⟩]) from hT)
      clear hT
      have N : Blk (wr.alloc (.cells #[.int .i64 3, .string ⟨#[]⟩, .int .i64 0, .int .i64 line, .int .i64 col] 77)) wr.heap.size 77 #[.int .i64 3, .string ⟨#[]⟩, .int .i64 0, .int .i64 line, .int .i64 col] := Blk.new _ _ _
      obtain ⟨D, d, X, hrun, hR2⟩ := (hR.below (bl_alloc (Below.refl _ _) (.cells #[.int .i64 3, .string ⟨#[]⟩, .int .i64 0, .int .i64 line, .int .i64 col] 77))).app (by omega) (x := ⟨3, [], 0, line, col⟩) (ty := 66) N
      have EB := hR2.pc
      have EL := hR2.bl
      have ER := hR2.row
      have hrb := hR2.rb
      clear hR hR2
      have eb_z : w.heap.size < X.heap.size := EB.lt
      have eb_c0 : X.cell? ⟨w.heap.size, 0, none⟩ = some (.int .i64 0) := (EB.cell 0).trans rfl
      have eb_f0 := EB.frozen 0
      have eb_c1 : X.cell? ⟨w.heap.size, 1, none⟩ = some (.int .i64 0) := (EB.cell 1).trans rfl
      have eb_f1 := EB.frozen 1
      go_wp2_with (at_builtin; refine list_app rfl (.tmp 160) (.tmp 164) 66 66 rfl (by exact hrun) ?_)
      have el : (l ++ [(⟨3, [], 0, line, col⟩ : Tok)]).length = l.length + 1 := by simp
      have ER2 := own_far (own_far ER (p := ⟨w.heap.size, 0, none⟩) hrb (.int .i64 0)) (p := ⟨w.heap.size, 1, none⟩) hrb (.int .i64 0)
      have EB2 : Blk ((X.setCell ⟨w.heap.size, 0, none⟩ (.int .i64 0)).setCell ⟨w.heap.size, 1, none⟩ (.int .i64 0)) w.heap.size 37 #[.int .i64 0, .int .i64 0] := (EB.put 0 _ rfl).put 1 _ rfl
      have EL2 := bl_set (bl_set EL (p := ⟨w.heap.size, 0, none⟩) (Nat.le_refl _) (.int .i64 0)) (p := ⟨w.heap.size, 1, none⟩) (Nat.le_refl _) (.int .i64 0)
      clear EB EL ER eb_z eb_c0 eb_f0 eb_c1 eb_f1
      generalize (X.setCell ⟨w.heap.size, 0, none⟩ (.int .i64 0)).setCell ⟨w.heap.size, 1, none⟩ (.int .i64 0) = V at ER2 EB2 EL2 ⊢
      have fb_z : w.heap.size < V.heap.size := EB2.lt
      have fb_c0 : V.cell? ⟨w.heap.size, 0, none⟩ = some (.int .i64 0) := (EB2.cell 0).trans rfl
      have fb_f0 := EB2.frozen 0
      have fb_c1 : V.cell? ⟨w.heap.size, 1, none⟩ = some (.int .i64 0) := (EB2.cell 1).trans rfl
      have fb_f1 := EB2.frozen 1
      refine bodyPost_ret (v := .tuple #[.slice D (l.length + 1) d, .agg #[.int .i64 0, .int .i64 0], .int .i64 0]) (by simp [results, Tryd.results22, go_sem, fb_z, fb_c0, fb_f0, fb_c1, fb_f1]) rfl (rpost_ok HTE.out el (by rw [el] at ER2; exact ER2) EL2)
theorem rlex_any (s : ByteArray) (w : World) : Calls Tryd.prog 22 #[.string s] w fun e w' => RLexPost w (lexT s.data.toList) e w' := by
  unfold lexT
  by_cases h : 1048576 < s.data.toList.length
  · rw [if_pos h]
    have hs : (1048576 : Int) < s.size := by rw [Lib.size_eq]; omega
    clear h
    go_enter Tryd.func22, Tryd.ntmps22
    go_wp2_with fail
    have EB2 : Blk (w.alloc (.cells #[.int .i64 1, .int .i64 1] 37)) w.heap.size 37 #[.int .i64 1, .int .i64 1] := Blk.new _ _ _
    have EL2 := bl_alloc (Below.refl w.heap.size w) (.cells #[.int .i64 1, .int .i64 1] 37)
    generalize w.alloc (.cells #[.int .i64 1, .int .i64 1] 37) = V at EB2 EL2 ⊢
    have fb_z : w.heap.size < V.heap.size := EB2.lt
    have fb_c0 : V.cell? ⟨w.heap.size, 0, none⟩ = some (.int .i64 1) := (EB2.cell 0).trans rfl
    have fb_f0 := EB2.frozen 0
    have fb_c1 : V.cell? ⟨w.heap.size, 1, none⟩ = some (.int .i64 1) := (EB2.cell 1).trans rfl
    have fb_f1 := EB2.frozen 1
    refine bodyPost_ret (v := .tuple #[.slice none 0 0, .agg #[.int .i64 1, .int .i64 1], .int .i64 7]) (by simp [results, Tryd.results22, go_sem, fb_z, fb_c0, fb_f0, fb_c1, fb_f1]) rfl (rpost_err rfl EL2)
  · rw [if_neg h]
    exact rlex_short s (by rw [Lib.size_eq]; omega) w
end Go.Proofs.YtklomjpnmmaogaaDoor
