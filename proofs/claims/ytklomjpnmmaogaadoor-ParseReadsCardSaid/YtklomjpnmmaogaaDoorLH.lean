/- Lex. -/
import Derived.Test.YtklomjpnmmaogaaDoorLG
namespace Go.Proofs.YtklomjpnmmaogaaDoor
open Go Go.RowKit
set_option linter.unusedVariables false
set_option linter.unusedSimpArgs false
set_option maxRecDepth 100000

section
variable {w0 w : World} {g k b p : Nat} {s : ByteArray} {R : Value} {l : List Tok} {line col al ac : Nat} {fr : Int} {rem : Bool}
def ClosedX (w0 w' : World) (g k b p : Nat) (s : ByteArray) (T : LexR) (i : Nat) (line col al ac : Nat) (rem : Bool) (e : Ending) : Prop :=
  (∃ er, ¬ er = 0 ∧ e = .returned (.int .i64 er) ∧ T = .err al ac er ∧ ∃ R l fr, Sc w0 w' g k b p s R R l line col fr al ac rem) ∨
    (e = .returned (.int .i64 0) ∧ ∃ R l, Sc w0 w' g k b p s R R l line col (-1) al ac rem ∧ l.length ≤ i ∧ T = (lexF (s.data.toList.drop i) line col rem).pre l)
theorem close_any (i : Nat) (hs : s.size ≤ 1048576) {T : LexR} (hI : InvX s T i l line col fr al ac rem) (hst : fr = -1 ∨ Stops (s.data.toList.drop i)) (hw : LexW w0) (hS : Sc w0 w g k b p s R R l line col fr al ac rem) :
    Calls Tryd.prog 50 #[.pointer (some ⟨g, 0, none⟩), .int .i64 i] w fun e w' => ClosedX w0 w' g k b p s T i line col al ac rem e := by
  obtain ⟨h1, h2, ⟨rfl, hT⟩ | ⟨f, acc, rfl, hf, rfl, hd, hla, hr, rfl, rfl, hT, hlf⟩⟩ := hI
  · refine (close_none i hS).mono ?_
    rintro e w' ⟨rfl, rfl⟩
    exact .inr ⟨rfl, _, _, hS, h2, hT⟩
  · have hst : Stops (s.data.toList.drop i) := by
      rcases hst with h | h
      · omega
      · exact h
    rw [runR_stop hst] at hT
    have he : s.extract f i = ⟨acc.toArray⟩ := by
      apply ByteArray.ext
      apply Array.toList_inj.1
      show (s.extract f i).data.toList = acc
      rw [Lib.extract_data, hd, ← hla]
      simp
    have hne : 0 < acc.length := by
      obtain ⟨c, r, rfl, _⟩ := hr.out
      simp
    refine (close_run f i acc hf h1 (by omega) he hr hw (by omega) hS).mono ?_
    rintro e w' (⟨a1, rfl, R2, fr2, h⟩ | ⟨a1, rfl, R2, h⟩)
    · rw [if_neg a1] at hT
      exact .inl ⟨_, a1, rfl, hT, _, _, _, h⟩
    · rw [if_pos a1, LexR.pre_cons] at hT
      exact .inr ⟨rfl, _, _, h, by rw [List.length_append]; simp; omega, hT⟩
/-- A run that goes on. -/
theorem inv_more {T : LexR} {i r K : Nat} (hi : i < s.size) (hd : Utf8.decode s i = (r, K)) (hI : InvX s T i l line col fr al ac rem) (h0 : 0 ≤ fr) (ha : anB s[i] = true) : K = 1 ∧ InvX s T (i + 1) l line (col + 1) fr al ac rem ∧ ¬ r = 10 := by
  have hh := an_high ha
  have hb := rune_byte i hi hd
  have hdr := get_drop s i hi
  obtain ⟨h1, h2, ⟨rfl, hT⟩ | ⟨f, acc, rfl, hf, rfl, hdd, hla, hr, rfl, rfl, hT, hlf⟩⟩ := hI
  · omega
  · refine ⟨by omega, ⟨by omega, by omega, .inr ⟨f, acc ++ [s[i]], rfl, by omega, rfl, ?_, ?_, ?_, rfl, ?_, ?_⟩⟩, by omega⟩
    · rw [hdd, hdr, List.append_assoc]; rfl
    · rw [List.length_append, hla]; simp; omega
    · obtain ⟨c, r, rfl, e1, e2⟩ := hr.out
      refine ⟨c, r ++ [s[i]], rfl, fun d hd => ?_, e2⟩
      rcases List.mem_append.1 hd with hd | hd
      · exact e1 d hd
      · have : d = s[i] := by simpa using hd
        rw [this]; exact ha
    · rw [List.length_append]; simp; omega
    · rw [hdr, runR_more ha] at hT
      exact ⟨hT, hlf⟩
end
/-- What Lex hands back. -/
def LexPost (w : World) (T : LexR) (e : Ending) (w' : World) : Prop :=
  ((∃ a c er, ¬ er = 0 ∧ T = .err a c er ∧ e = .returned (.tuple #[.slice none 0 0, .agg #[.int .i64 a, .int .i64 c], .int .i64 er])) ∨
    (∃ L D d, T = .ok L ∧ e = .returned (.tuple #[.slice D L.length d, .agg #[.int .i64 0, .int .i64 0], .int .i64 0]) ∧ w'.ownsRow w.heap.size 116 5 (.slice D L.length d) L.length (toksC L))) ∧ Below w.heap.size w w'
set_option maxHeartbeats 6400000 in
theorem lex_short (s : ByteArray) (hs : s.size ≤ 1048576) (w : World) (hw : LexW w) : Calls Tryd.prog 20 #[.string s] w fun e w' => LexPost w (lexF s.data.toList 1 1 false) e w' := by
  unfold LexPost
  obtain ⟨T, hT⟩ : ∃ T, lexF s.data.toList 1 1 false = T := ⟨_, rfl⟩
  rw [hT]
  have HW := Lib.hid hw
  have hns : ¬ (1048576 : Int) < s.size := by omega
  clear hw
  go_enter Tryd.func20, Tryd.ntmps20
  go_wp2_with fail
  go_loopg [] s.size (fun gf wx => ∃ (i : Nat) (R : Value) (l : List Tok) (line col : Nat) (fr : Int) (al ac : Nat) (rem : Bool), Sc w wx (w.heap.size + 1) (w.heap.size + 2) w.heap.size i s R R l line col fr al ac rem ∧ InvX s T i l line col fr al ac rem ∧ line ≤ i + 1 ∧ col ≤ i + 1 ∧ s.size ≤ i + gf)
  case atStart =>
    refine ⟨0, .slice none 0 0, [], 1, 1, -1, 0, 0, false, ?_, ⟨by omega, by simp, .inl ⟨rfl, ?_⟩⟩, by omega, by omega, by omega⟩
    · refine ⟨(Blk.new' (by simp) _ _).alloc _, own_nil _ _ _ _, ?_, ((Blk.new _ _ _).alloc _).alloc _, by omega, by omega, Nat.le_refl _, bl_alloc (bl_alloc (bl_alloc (Below.refl _ _) _) _) _⟩
      have := World.iter_heap ((w.alloc (.cells #[.int .i64 0, .int .i64 0] 29)).alloc (.cells (scanC s (.slice none 0 0) 1 1 (-1) 0 0 false) 110)) s 0
      rw [show ((w.alloc (.cells #[.int .i64 0, .int .i64 0] 29)).alloc (.cells (scanC s (.slice none 0 0) 1 1 (-1) 0 0 false) 110)).heap.size = (w.heap.size + 2) by simp only [World.alloc, Array.size_push]] at this
      exact this
    · rw [LexR.pre_nil]; exact hT.symm
  case round =>
    obtain ⟨i, R, l, line, col, fr, al, ac, rem, hS, hI, hln, hcl, hfu⟩ := hrel
    clear hT
    have hgb : (w.heap.size + 1) ≠ w.heap.size := by omega
    have hi0 := hI.1
    by_cases hps : i < s.size
    · obtain ⟨g', rfl⟩ : ∃ g', gk = g' + 1 := ⟨gk - 1, by omega⟩
      obtain ⟨r, K, hd⟩ : ∃ r K, Utf8.decode s i = (r, K) := ⟨_, _, rfl⟩
      have hK1 : 1 ≤ K := by have := Lib.width_pos s i; rw [hd] at this; exact this
      have hnx : ∀ ty, (Instr.next (.pointer (some ⟨(w.heap.size + 2), 0, none⟩)) true ty).run Tryd.prog wr = _ := fun ty => Lib.run_next_any_at wr (w.heap.size + 2) s i ty hS.it hps
      simp only [hd] at hnx
      have S1 := hS.next (i + K)
      clear hS
      generalize wr.iterAt (w.heap.size + 2) s (i + K) = W at hnx S1
      have HR := Lib.hid (runs_any (r : Int) S1.box)
      have han := an_rune (c := s[i]) (r := r) (by have := rune_byte i hps hd; omega)
      rw [han] at HR
      have wc : IntKind.i64.wrap ((col : Int) + 1) = (col : Int) + 1 := by rw [IntKind.wrap_i64]; omega
      have wl : IntKind.i64.wrap ((line : Int) + 1) = (line : Int) + 1 := by rw [IntKind.wrap_i64]; omega
      by_cases hx : (decide (0 ≤ fr) && anB s[i]) = true
      · rw [hx] at HR
        rw [Bool.and_eq_true, decide_eq_true_eq] at hx
        obtain ⟨rfl, hI2, hr10⟩ := inv_more hps hd hI hx.1 hx.2
        have hr : ¬ ((r : Int) == 10) = true := by simp; omega
        have HI2 := Lib.hid hI2
        clear hI hI2 hd han hx
        go_wp2_with fail
        refine HR.out.mono ?_; rintro e V ⟨rfl, rfl⟩
        have q_z := S1.box.lt
        have q_c2 : V.cell? ⟨(w.heap.size + 1), 2, none⟩ = some (.int .i64 line) := (S1.c 2).trans rfl
        have q_f2 : V.frozen? ⟨(w.heap.size + 1), 2, none⟩ = false := S1.f 2
        have q_c3 : V.cell? ⟨(w.heap.size + 1), 3, none⟩ = some (.int .i64 col) := (S1.c 3).trans rfl
        have q_f3 : V.frozen? ⟨(w.heap.size + 1), 3, none⟩ = false := S1.f 3
        go_wp2_with fail
        go_roundg g'
        case measure => omega
        case rel => exact ⟨i + 1, R, l, line, col + 1, fr, al, ac, rem, S1.put 3 _ rfl, HI2.out, by omega, by omega, by omega⟩
      · have hx' : (decide (0 ≤ fr) && anB s[i]) = false := by simpa using hx
        rw [hx'] at HR
        have hst : fr = -1 ∨ Stops (s.data.toList.drop i) := by
          rcases hI.2.2 with h | ⟨f, acc, rfl, _⟩
          · exact .inl h.1
          · refine .inr fun c q hc => ?_
            rw [get_drop s i hps] at hc
            injection hc with hc _
            rw [← hc]
            simpa using hx'
        have HC := Lib.hid (close_any i hs hI hst HW.out S1)
        clear hI han hx hx' hst
        go_wp2_with fail
        refine HR.out.mono ?_; rintro e V ⟨rfl, rfl⟩
        go_wp2_with fail
        refine HC.out.mono ?_; rintro e V2 (⟨er, hne, rfl, hTE, R2, l2, fr2, S2⟩ | ⟨rfl, R2, l2, S2, hl2, hT2⟩)
        · have hne' : ¬ (er == 0) = true := by simpa using hne
          clear HC S1
          go_wp2_with fail
          have EG := S2.box
          have EB := S2.pc
          have EL := S2.bl
          have zg := EG.lt
          clear S2
          refine wp_region_pre (S := fun w' => w'.cell? ⟨(w.heap.size + 1), 5, none⟩ = some (.int .i64 al) ∧ w'.cell? ⟨(w.heap.size + 1), 6, none⟩ = some (.int .i64 ac)) 7 (by kernel_rfl) (by kernel_rfl) ?_ (fun hH0 => ?_)
          · exact ⟨((EG.below (bl_drew (Below.refl _ _))).cell 5).trans rfl, ((EG.below (bl_drew (Below.refl _ _))).cell 6).trans rfl⟩
          refine PreG.take (i := 0) (v := ?vv1) rfl (by kernel_rfl) (by kernel_rfl) (fun _ _ _ h => h) (Or.inl ⟨by rfl, ?hy1⟩) (by assumption) ?rest1
          case hy1 => intro w hSw; (try dsimp only at hSw); first | (go_simp; done) | (go_simp; with_reducible rfl)
          try simp only [Act.put, List.getElem_toArray, List.getElem_cons_zero, List.getElem_cons_succ, List.setIfInBounds_toArray, List.set_cons_zero, List.set_cons_succ]
          refine PreG.take (i := 1) (v := ?vv2) rfl (by kernel_rfl) (by kernel_rfl) (fun _ _ _ h => h) (Or.inl ⟨by rfl, ?hy2⟩) (by assumption) ?rest2
          case hy2 => intro w hSw; (try dsimp only at hSw); first | (go_simp; done) | (go_simp; with_reducible rfl)
          try simp only [Act.put, List.getElem_toArray, List.getElem_cons_zero, List.getElem_cons_succ, List.setIfInBounds_toArray, List.set_cons_zero, List.set_cons_succ]
          refine PreG.take (i := 2) (v := ?vv3) rfl (by kernel_rfl) (by kernel_rfl) (fun _ _ _ h => h) (Or.inl ⟨by rfl, ?hy3⟩) (by assumption) ?rest3
          case hy3 => intro w hSw; (try dsimp only at hSw); first | (go_simp; done) | (go_simp; with_reducible rfl)
          try simp only [Act.put, List.getElem_toArray, List.getElem_cons_zero, List.getElem_cons_succ, List.setIfInBounds_toArray, List.set_cons_zero, List.set_cons_succ]
          refine PreG.take (i := 3) (v := ?vv4) rfl (by kernel_rfl) (by kernel_rfl) (fun _ _ _ h => h) (Or.inl ⟨by rfl, ?hy4⟩) (by assumption) ?rest4
          case hy4 => intro w hSw; (try dsimp only at hSw); first | (go_simp; done) | (go_simp; with_reducible rfl)
          try simp only [Act.put, List.getElem_toArray, List.getElem_cons_zero, List.getElem_cons_succ, List.setIfInBounds_toArray, List.set_cons_zero, List.set_cons_succ]
          refine PreG.take (i := 4) (v := ?vv5) rfl (by kernel_rfl) (by kernel_rfl) (fun _ _ _ h => h) (Or.inl ⟨by rfl, ?hy5⟩) (by assumption) ?rest5
          case hy5 => intro w hSw; (try dsimp only at hSw); first | (go_simp; done) | (go_simp; with_reducible rfl)
          try simp only [Act.put, List.getElem_toArray, List.getElem_cons_zero, List.getElem_cons_succ, List.setIfInBounds_toArray, List.set_cons_zero, List.set_cons_succ]
          refine PreG.ready (rs := [5]) (by kernel_rfl) (by kernel_rfl) ?_
          refine AllPre.cons rfl (fun K hK => ?_) ?_
          · go_simp
            refine hK.out _ _ ?_ (fun hH1 => ?_)
            · exact ⟨((EG.below (bl_drew (Below.refl _ _))).cell 5).trans rfl, ((EG.below (bl_drew (Below.refl _ _))).cell 6).trans rfl⟩
            clear hK K hH0
            try simp only [Act.put, List.getElem_toArray, List.getElem_cons_zero, List.getElem_cons_succ, List.setIfInBounds_toArray, List.set_cons_zero, List.set_cons_succ]
            refine PreG.ready (rs := [6]) (by kernel_rfl) (by kernel_rfl) ?_
            refine AllPre.cons rfl (fun K hK => ?_) ?_
            · have PG7 := (EG.below (bl_drew (Below.refl _ _)))
              have PB7 := (EB.below (bl_drew (Below.refl _ _)))
              have PL7 := bl_drew EL
              generalize V2.drew = Y7 at PG7 PB7 PL7 ⊢
              have pb7_z : w.heap.size < Y7.heap.size := PB7.lt
              have pb7_c0 : Y7.cell? ⟨w.heap.size, 0, none⟩ = some (.int .i64 0) := (PB7.cell 0).trans rfl
              have pb7_f0 := PB7.frozen 0
              have pb7_c1 : Y7.cell? ⟨w.heap.size, 1, none⟩ = some (.int .i64 0) := (PB7.cell 1).trans rfl
              have pb7_f1 := PB7.frozen 1
              go_simp
              have G7 := (PG7.far (p := ⟨w.heap.size, 0, none⟩) hgb (.int .i64 al)).far (p := ⟨w.heap.size, 1, none⟩) hgb (.int .i64 ac)
              have B7 : Blk ((Y7.setCell ⟨w.heap.size, 0, none⟩ (.int .i64 al)).setCell ⟨w.heap.size, 1, none⟩ (.int .i64 ac)) w.heap.size 29 #[.int .i64 al, .int .i64 ac] := (PB7.put 0 _ rfl).put 1 _ rfl
              have L7 := bl_set (bl_set PL7 (p := ⟨w.heap.size, 0, none⟩) (Nat.le_refl _) (.int .i64 al)) (p := ⟨w.heap.size, 1, none⟩) (Nat.le_refl _) (.int .i64 ac)
              clear PG7 PB7 PL7 pb7_z pb7_c0 pb7_f0 pb7_c1 pb7_f1
              generalize (Y7.setCell ⟨w.heap.size, 0, none⟩ (.int .i64 al)).setCell ⟨w.heap.size, 1, none⟩ (.int .i64 ac) = V7 at G7 B7 L7 ⊢
              refine hK.out _ _ ?_ (fun hH2 => ?_)
              · exact ⟨(G7.cell 5).trans rfl, (G7.cell 6).trans rfl⟩
              clear hK K hH1
              try simp only [Act.put, List.getElem_toArray, List.getElem_cons_zero, List.getElem_cons_succ, List.setIfInBounds_toArray, List.set_cons_zero, List.set_cons_succ]
              refine PreG.done (by kernel_rfl) ?_
              simp only [List.drop_succ_cons, List.drop_zero]
              clear hH2
              have fb_z : w.heap.size < V7.heap.size := B7.lt
              have fb_c0 : V7.cell? ⟨w.heap.size, 0, none⟩ = some (.int .i64 al) := (B7.cell 0).trans rfl
              have fb_f0 := B7.frozen 0
              have fb_c1 : V7.cell? ⟨w.heap.size, 1, none⟩ = some (.int .i64 ac) := (B7.cell 1).trans rfl
              have fb_f1 := B7.frozen 1
              go_wp2_with fail
              refine bodyPost_ret (v := .tuple #[.slice none 0 0, .agg #[.int .i64 al, .int .i64 ac], .int .i64 er]) (by simp [results, Tryd.results20, go_sem, fb_z, fb_c0, fb_f0, fb_c1, fb_f1]) rfl ⟨.inl ⟨_, _, _, hne, hTE, rfl⟩, L7⟩
            exact AllPre.nil
          exact AllPre.nil
        · have HS := Lib.hid (step_any i hps hs hl2 hd hT2 S2)
          clear HC S1 hT2 hl2 S2
          go_wp2_with fail
          refine HS.out.mono ?_; rintro e V3 (⟨rfl, hTE, R3, S3⟩ | ⟨rfl, R3, l3, fr3, al3, ac3, rem3, S3, hI3⟩)
          · clear HS
            go_wp2_with fail
            have EG := S3.box
            have EB := S3.pc
            have EL := S3.bl
            have zg := EG.lt
            clear S3
            refine wp_region_pre (S := fun w' => w'.cell? ⟨(w.heap.size + 1), 2, none⟩ = some (.int .i64 line) ∧ w'.cell? ⟨(w.heap.size + 1), 3, none⟩ = some (.int .i64 col)) 7 (by kernel_rfl) (by kernel_rfl) ?_ (fun hH0 => ?_)
            · exact ⟨((EG.below (bl_drew (Below.refl _ _))).cell 2).trans rfl, ((EG.below (bl_drew (Below.refl _ _))).cell 3).trans rfl⟩
            refine PreG.take (i := 0) (v := ?vv8) rfl (by kernel_rfl) (by kernel_rfl) (fun _ _ _ h => h) (Or.inl ⟨by rfl, ?hy8⟩) (by assumption) ?rest8
            case hy8 => intro w hSw; (try dsimp only at hSw); first | (go_simp; done) | (go_simp; with_reducible rfl)
            try simp only [Act.put, List.getElem_toArray, List.getElem_cons_zero, List.getElem_cons_succ, List.setIfInBounds_toArray, List.set_cons_zero, List.set_cons_succ]
            refine PreG.take (i := 1) (v := ?vv9) rfl (by kernel_rfl) (by kernel_rfl) (fun _ _ _ h => h) (Or.inl ⟨by rfl, ?hy9⟩) (by assumption) ?rest9
            case hy9 => intro w hSw; (try dsimp only at hSw); first | (go_simp; done) | (go_simp; with_reducible rfl)
            try simp only [Act.put, List.getElem_toArray, List.getElem_cons_zero, List.getElem_cons_succ, List.setIfInBounds_toArray, List.set_cons_zero, List.set_cons_succ]
            refine PreG.take (i := 2) (v := ?vv10) rfl (by kernel_rfl) (by kernel_rfl) (fun _ _ _ h => h) (Or.inl ⟨by rfl, ?hy10⟩) (by assumption) ?rest10
            case hy10 => intro w hSw; (try dsimp only at hSw); first | (go_simp; done) | (go_simp; with_reducible rfl)
            try simp only [Act.put, List.getElem_toArray, List.getElem_cons_zero, List.getElem_cons_succ, List.setIfInBounds_toArray, List.set_cons_zero, List.set_cons_succ]
            refine PreG.take (i := 3) (v := ?vv11) rfl (by kernel_rfl) (by kernel_rfl) (fun _ _ _ h => h) (Or.inl ⟨by rfl, ?hy11⟩) (by assumption) ?rest11
            case hy11 => intro w hSw; (try dsimp only at hSw); first | (go_simp; done) | (go_simp; with_reducible rfl)
            try simp only [Act.put, List.getElem_toArray, List.getElem_cons_zero, List.getElem_cons_succ, List.setIfInBounds_toArray, List.set_cons_zero, List.set_cons_succ]
            refine PreG.take (i := 4) (v := ?vv12) rfl (by kernel_rfl) (by kernel_rfl) (fun _ _ _ h => h) (Or.inl ⟨by rfl, ?hy12⟩) (by assumption) ?rest12
            case hy12 => intro w hSw; (try dsimp only at hSw); first | (go_simp; done) | (go_simp; with_reducible rfl)
            try simp only [Act.put, List.getElem_toArray, List.getElem_cons_zero, List.getElem_cons_succ, List.setIfInBounds_toArray, List.set_cons_zero, List.set_cons_succ]
            refine PreG.ready (rs := [5]) (by kernel_rfl) (by kernel_rfl) ?_
            refine AllPre.cons rfl (fun K hK => ?_) ?_
            · go_simp
              refine hK.out _ _ ?_ (fun hH1 => ?_)
              · exact ⟨((EG.below (bl_drew (Below.refl _ _))).cell 2).trans rfl, ((EG.below (bl_drew (Below.refl _ _))).cell 3).trans rfl⟩
              clear hK K hH0
              try simp only [Act.put, List.getElem_toArray, List.getElem_cons_zero, List.getElem_cons_succ, List.setIfInBounds_toArray, List.set_cons_zero, List.set_cons_succ]
              refine PreG.ready (rs := [6]) (by kernel_rfl) (by kernel_rfl) ?_
              refine AllPre.cons rfl (fun K hK => ?_) ?_
              · have PG14 := (EG.below (bl_drew (Below.refl _ _)))
                have PB14 := (EB.below (bl_drew (Below.refl _ _)))
                have PL14 := bl_drew EL
                generalize V3.drew = Y14 at PG14 PB14 PL14 ⊢
                have pb14_z : w.heap.size < Y14.heap.size := PB14.lt
                have pb14_c0 : Y14.cell? ⟨w.heap.size, 0, none⟩ = some (.int .i64 0) := (PB14.cell 0).trans rfl
                have pb14_f0 := PB14.frozen 0
                have pb14_c1 : Y14.cell? ⟨w.heap.size, 1, none⟩ = some (.int .i64 0) := (PB14.cell 1).trans rfl
                have pb14_f1 := PB14.frozen 1
                go_simp
                have G14 := (PG14.far (p := ⟨w.heap.size, 0, none⟩) hgb (.int .i64 line)).far (p := ⟨w.heap.size, 1, none⟩) hgb (.int .i64 col)
                have B14 : Blk ((Y14.setCell ⟨w.heap.size, 0, none⟩ (.int .i64 line)).setCell ⟨w.heap.size, 1, none⟩ (.int .i64 col)) w.heap.size 29 #[.int .i64 line, .int .i64 col] := (PB14.put 0 _ rfl).put 1 _ rfl
                have L14 := bl_set (bl_set PL14 (p := ⟨w.heap.size, 0, none⟩) (Nat.le_refl _) (.int .i64 line)) (p := ⟨w.heap.size, 1, none⟩) (Nat.le_refl _) (.int .i64 col)
                clear PG14 PB14 PL14 pb14_z pb14_c0 pb14_f0 pb14_c1 pb14_f1
                generalize (Y14.setCell ⟨w.heap.size, 0, none⟩ (.int .i64 line)).setCell ⟨w.heap.size, 1, none⟩ (.int .i64 col) = V14 at G14 B14 L14 ⊢
                refine hK.out _ _ ?_ (fun hH2 => ?_)
                · exact ⟨(G14.cell 2).trans rfl, (G14.cell 3).trans rfl⟩
                clear hK K hH1
                try simp only [Act.put, List.getElem_toArray, List.getElem_cons_zero, List.getElem_cons_succ, List.setIfInBounds_toArray, List.set_cons_zero, List.set_cons_succ]
                refine PreG.done (by kernel_rfl) ?_
                simp only [List.drop_succ_cons, List.drop_zero]
                clear hH2
                have fb_z : w.heap.size < V14.heap.size := B14.lt
                have fb_c0 : V14.cell? ⟨w.heap.size, 0, none⟩ = some (.int .i64 line) := (B14.cell 0).trans rfl
                have fb_f0 := B14.frozen 0
                have fb_c1 : V14.cell? ⟨w.heap.size, 1, none⟩ = some (.int .i64 col) := (B14.cell 1).trans rfl
                have fb_f1 := B14.frozen 1
                go_wp2_with fail
                refine bodyPost_ret (v := .tuple #[.slice none 0 0, .agg #[.int .i64 line, .int .i64 col], .int .i64 20]) (by simp [results, Tryd.results20, go_sem, fb_z, fb_c0, fb_f0, fb_c1, fb_f1]) rfl ⟨.inl ⟨_, _, _, (by decide), hTE, rfl⟩, L14⟩
              exact AllPre.nil
            exact AllPre.nil
          · have HI3 := Lib.hid hI3
            clear HS hI3 hd
            by_cases hr10 : r = 10
            · subst hr10
              have q_z := S3.box.lt
              have q_c2 : V3.cell? ⟨(w.heap.size + 1), 2, none⟩ = some (.int .i64 line) := (S3.c 2).trans rfl
              have q_f2 : V3.frozen? ⟨(w.heap.size + 1), 2, none⟩ = false := S3.f 2
              have q_c3 : V3.cell? ⟨(w.heap.size + 1), 3, none⟩ = some (.int .i64 col) := (S3.c 3).trans rfl
              have q_f3 : V3.frozen? ⟨(w.heap.size + 1), 3, none⟩ = false := S3.f 3
              go_wp2_with fail
              go_roundg g'
              case measure => omega
              case rel => exact ⟨i + K, R3, l3, line + 1, 1, fr3, al3, ac3, rem3, ((S3.put 3 _ rfl).put 2 _ rfl).put 3 _ rfl, HI3.out, by omega, by omega, by omega⟩
            · have hr : ¬ ((r : Int) == 10) = true := by simp; omega
              rw [if_neg hr10, if_neg hr10] at HI3
              have q_z := S3.box.lt
              have q_c2 : V3.cell? ⟨(w.heap.size + 1), 2, none⟩ = some (.int .i64 line) := (S3.c 2).trans rfl
              have q_f2 : V3.frozen? ⟨(w.heap.size + 1), 2, none⟩ = false := S3.f 2
              have q_c3 : V3.cell? ⟨(w.heap.size + 1), 3, none⟩ = some (.int .i64 col) := (S3.c 3).trans rfl
              have q_f3 : V3.frozen? ⟨(w.heap.size + 1), 3, none⟩ = false := S3.f 3
              go_wp2_with fail
              go_roundg g'
              case measure => omega
              case rel => exact ⟨i + K, R3, l3, line, col + 1, fr3, al3, ac3, rem3, S3.put 3 _ rfl, HI3.out, by omega, by omega, by omega⟩
    · have hnx : ∀ ty, (Instr.next (.pointer (some ⟨(w.heap.size + 2), 0, none⟩)) true ty).run Tryd.prog wr = _ := fun ty => Lib.run_next_end_at wr (w.heap.size + 2) s i ty hS.it hps
      obtain rfl : i = s.size := by omega
      have hnil : s.data.toList.drop s.size = [] := List.drop_eq_nil_of_le (by rw [← Lib.size_eq]; exact Nat.le_refl _)
      have HC := Lib.hid (close_any s.size hs hI (.inr (by rw [hnil]; intro c q h; cases h)) HW.out hS)
      clear hI
      go_wp2_with fail
      refine HC.out.mono ?_; rintro e V2 (⟨er, hne, rfl, hTE, R2, l2, fr2, S2⟩ | ⟨rfl, R2, l2, S2, hl2, hT2⟩)
      · have hne' : ¬ (er == 0) = true := by simpa using hne
        clear HC hS
        go_wp2_with fail
        have EG := S2.box
        have EB := S2.pc
        have EL := S2.bl
        have zg := EG.lt
        clear S2
        refine wp_region_pre (S := fun w' => w'.cell? ⟨(w.heap.size + 1), 5, none⟩ = some (.int .i64 al) ∧ w'.cell? ⟨(w.heap.size + 1), 6, none⟩ = some (.int .i64 ac)) 7 (by kernel_rfl) (by kernel_rfl) ?_ (fun hH0 => ?_)
        · exact ⟨((EG.below (bl_drew (Below.refl _ _))).cell 5).trans rfl, ((EG.below (bl_drew (Below.refl _ _))).cell 6).trans rfl⟩
        refine PreG.take (i := 0) (v := ?vv15) rfl (by kernel_rfl) (by kernel_rfl) (fun _ _ _ h => h) (Or.inl ⟨by rfl, ?hy15⟩) (by assumption) ?rest15
        case hy15 => intro w hSw; (try dsimp only at hSw); first | (go_simp; done) | (go_simp; with_reducible rfl)
        try simp only [Act.put, List.getElem_toArray, List.getElem_cons_zero, List.getElem_cons_succ, List.setIfInBounds_toArray, List.set_cons_zero, List.set_cons_succ]
        refine PreG.take (i := 1) (v := ?vv16) rfl (by kernel_rfl) (by kernel_rfl) (fun _ _ _ h => h) (Or.inl ⟨by rfl, ?hy16⟩) (by assumption) ?rest16
        case hy16 => intro w hSw; (try dsimp only at hSw); first | (go_simp; done) | (go_simp; with_reducible rfl)
        try simp only [Act.put, List.getElem_toArray, List.getElem_cons_zero, List.getElem_cons_succ, List.setIfInBounds_toArray, List.set_cons_zero, List.set_cons_succ]
        refine PreG.take (i := 2) (v := ?vv17) rfl (by kernel_rfl) (by kernel_rfl) (fun _ _ _ h => h) (Or.inl ⟨by rfl, ?hy17⟩) (by assumption) ?rest17
        case hy17 => intro w hSw; (try dsimp only at hSw); first | (go_simp; done) | (go_simp; with_reducible rfl)
        try simp only [Act.put, List.getElem_toArray, List.getElem_cons_zero, List.getElem_cons_succ, List.setIfInBounds_toArray, List.set_cons_zero, List.set_cons_succ]
        refine PreG.take (i := 3) (v := ?vv18) rfl (by kernel_rfl) (by kernel_rfl) (fun _ _ _ h => h) (Or.inl ⟨by rfl, ?hy18⟩) (by assumption) ?rest18
        case hy18 => intro w hSw; (try dsimp only at hSw); first | (go_simp; done) | (go_simp; with_reducible rfl)
        try simp only [Act.put, List.getElem_toArray, List.getElem_cons_zero, List.getElem_cons_succ, List.setIfInBounds_toArray, List.set_cons_zero, List.set_cons_succ]
        refine PreG.take (i := 4) (v := ?vv19) rfl (by kernel_rfl) (by kernel_rfl) (fun _ _ _ h => h) (Or.inl ⟨by rfl, ?hy19⟩) (by assumption) ?rest19
        case hy19 => intro w hSw; (try dsimp only at hSw); first | (go_simp; done) | (go_simp; with_reducible rfl)
        try simp only [Act.put, List.getElem_toArray, List.getElem_cons_zero, List.getElem_cons_succ, List.setIfInBounds_toArray, List.set_cons_zero, List.set_cons_succ]
        refine PreG.ready (rs := [5]) (by kernel_rfl) (by kernel_rfl) ?_
        refine AllPre.cons rfl (fun K hK => ?_) ?_
        · go_simp
          refine hK.out _ _ ?_ (fun hH1 => ?_)
          · exact ⟨((EG.below (bl_drew (Below.refl _ _))).cell 5).trans rfl, ((EG.below (bl_drew (Below.refl _ _))).cell 6).trans rfl⟩
          clear hK K hH0
          try simp only [Act.put, List.getElem_toArray, List.getElem_cons_zero, List.getElem_cons_succ, List.setIfInBounds_toArray, List.set_cons_zero, List.set_cons_succ]
          refine PreG.ready (rs := [6]) (by kernel_rfl) (by kernel_rfl) ?_
          refine AllPre.cons rfl (fun K hK => ?_) ?_
          · have PG21 := (EG.below (bl_drew (Below.refl _ _)))
            have PB21 := (EB.below (bl_drew (Below.refl _ _)))
            have PL21 := bl_drew EL
            generalize V2.drew = Y21 at PG21 PB21 PL21 ⊢
            have pb21_z : w.heap.size < Y21.heap.size := PB21.lt
            have pb21_c0 : Y21.cell? ⟨w.heap.size, 0, none⟩ = some (.int .i64 0) := (PB21.cell 0).trans rfl
            have pb21_f0 := PB21.frozen 0
            have pb21_c1 : Y21.cell? ⟨w.heap.size, 1, none⟩ = some (.int .i64 0) := (PB21.cell 1).trans rfl
            have pb21_f1 := PB21.frozen 1
            go_simp
            have G21 := (PG21.far (p := ⟨w.heap.size, 0, none⟩) hgb (.int .i64 al)).far (p := ⟨w.heap.size, 1, none⟩) hgb (.int .i64 ac)
            have B21 : Blk ((Y21.setCell ⟨w.heap.size, 0, none⟩ (.int .i64 al)).setCell ⟨w.heap.size, 1, none⟩ (.int .i64 ac)) w.heap.size 29 #[.int .i64 al, .int .i64 ac] := (PB21.put 0 _ rfl).put 1 _ rfl
            have L21 := bl_set (bl_set PL21 (p := ⟨w.heap.size, 0, none⟩) (Nat.le_refl _) (.int .i64 al)) (p := ⟨w.heap.size, 1, none⟩) (Nat.le_refl _) (.int .i64 ac)
            clear PG21 PB21 PL21 pb21_z pb21_c0 pb21_f0 pb21_c1 pb21_f1
            generalize (Y21.setCell ⟨w.heap.size, 0, none⟩ (.int .i64 al)).setCell ⟨w.heap.size, 1, none⟩ (.int .i64 ac) = V21 at G21 B21 L21 ⊢
            refine hK.out _ _ ?_ (fun hH2 => ?_)
            · exact ⟨(G21.cell 5).trans rfl, (G21.cell 6).trans rfl⟩
            clear hK K hH1
            try simp only [Act.put, List.getElem_toArray, List.getElem_cons_zero, List.getElem_cons_succ, List.setIfInBounds_toArray, List.set_cons_zero, List.set_cons_succ]
            refine PreG.done (by kernel_rfl) ?_
            simp only [List.drop_succ_cons, List.drop_zero]
            clear hH2
            have fb_z : w.heap.size < V21.heap.size := B21.lt
            have fb_c0 : V21.cell? ⟨w.heap.size, 0, none⟩ = some (.int .i64 al) := (B21.cell 0).trans rfl
            have fb_f0 := B21.frozen 0
            have fb_c1 : V21.cell? ⟨w.heap.size, 1, none⟩ = some (.int .i64 ac) := (B21.cell 1).trans rfl
            have fb_f1 := B21.frozen 1
            go_wp2_with fail
            refine bodyPost_ret (v := .tuple #[.slice none 0 0, .agg #[.int .i64 al, .int .i64 ac], .int .i64 er]) (by simp [results, Tryd.results20, go_sem, fb_z, fb_c0, fb_f0, fb_c1, fb_f1]) rfl ⟨.inl ⟨_, _, _, hne, hTE, rfl⟩, L21⟩
          exact AllPre.nil
        exact AllPre.nil
      · rw [hnil, lexF_nil] at hT2
        have hTE : T = .ok (l2 ++ [⟨3, [], 0, line, col⟩]) := hT2
        clear HC hS hT2
        go_wp2_with fail
        have zg := S2.box.lt
        refine wp_region_pre (S := fun w' => w'.cell? ⟨(w.heap.size + 1), 1, none⟩ = some R2 ∧ w'.cell? ⟨(w.heap.size + 1), 2, none⟩ = some (.int .i64 line) ∧ w'.cell? ⟨(w.heap.size + 1), 3, none⟩ = some (.int .i64 col)) 13 (by kernel_rfl) (by kernel_rfl) ?_ (fun hH0 => ?_)
        · exact ⟨((S2.below (bl_drew (Below.refl _ _))).c 1).trans rfl, ((S2.below (bl_drew (Below.refl _ _))).c 2).trans rfl, ((S2.below (bl_drew (Below.refl _ _))).c 3).trans rfl⟩
        refine PreG.take (i := 0) (v := ?vv22) rfl (by kernel_rfl) (by kernel_rfl) (fun _ _ _ h => h) (Or.inl ⟨by rfl, ?hy22⟩) (by assumption) ?rest22
        case hy22 => intro w hSw; (try dsimp only at hSw); first | (go_simp; done) | (go_simp; with_reducible rfl)
        try simp only [Act.put, List.getElem_toArray, List.getElem_cons_zero, List.getElem_cons_succ, List.setIfInBounds_toArray, List.set_cons_zero, List.set_cons_succ]
        refine PreG.take (i := 1) (v := ?vv23) rfl (by kernel_rfl) (by kernel_rfl) (fun _ _ _ h => h) (Or.inl ⟨by rfl, ?hy23⟩) (by assumption) ?rest23
        case hy23 => intro w hSw; (try dsimp only at hSw); first | (go_simp; done) | (go_simp; with_reducible rfl)
        try simp only [Act.put, List.getElem_toArray, List.getElem_cons_zero, List.getElem_cons_succ, List.setIfInBounds_toArray, List.set_cons_zero, List.set_cons_succ]
        refine PreG.take (i := 2) (v := ?vv24) rfl (by kernel_rfl) (by kernel_rfl) (fun _ _ _ h => h) (Or.inl ⟨by rfl, ?hy24⟩) (by assumption) ?rest24
        case hy24 => intro w hSw; (try dsimp only at hSw); first | (go_simp; done) | (go_simp; with_reducible rfl)
        try simp only [Act.put, List.getElem_toArray, List.getElem_cons_zero, List.getElem_cons_succ, List.setIfInBounds_toArray, List.set_cons_zero, List.set_cons_succ]
        refine PreG.take (i := 3) (v := ?vv25) rfl (by kernel_rfl) (by kernel_rfl) (fun _ _ _ h => h) (Or.inl ⟨by rfl, ?hy25⟩) (by assumption) ?rest25
        case hy25 => intro w hSw; (try dsimp only at hSw); first | (go_simp; done) | (go_simp; with_reducible rfl)
        try simp only [Act.put, List.getElem_toArray, List.getElem_cons_zero, List.getElem_cons_succ, List.setIfInBounds_toArray, List.set_cons_zero, List.set_cons_succ]
        refine PreG.take (i := 4) (v := ?vv26) rfl (by kernel_rfl) (by kernel_rfl) (fun _ _ _ h => h) (Or.inl ⟨by rfl, ?hy26⟩) (by assumption) ?rest26
        case hy26 => intro w hSw; (try dsimp only at hSw); first | (go_simp; done) | (go_simp; with_reducible rfl)
        try simp only [Act.put, List.getElem_toArray, List.getElem_cons_zero, List.getElem_cons_succ, List.setIfInBounds_toArray, List.set_cons_zero, List.set_cons_succ]
        refine PreG.take (i := 5) (v := ?vv27) rfl (by kernel_rfl) (by kernel_rfl) (fun _ _ _ h => h) (Or.inl ⟨by rfl, ?hy27⟩) (by assumption) ?rest27
        case hy27 => intro w hSw; (try dsimp only at hSw); first | (go_simp; done) | (go_simp; with_reducible rfl)
        try simp only [Act.put, List.getElem_toArray, List.getElem_cons_zero, List.getElem_cons_succ, List.setIfInBounds_toArray, List.set_cons_zero, List.set_cons_succ]
        refine PreG.take (i := 6) (v := ?vv28) rfl (by kernel_rfl) (by kernel_rfl) (fun _ _ _ h => h) (Or.inl ⟨by rfl, ?hy28⟩) (by assumption) ?rest28
        case hy28 => intro w hSw; (try dsimp only at hSw); first | (go_simp; done) | (go_simp; with_reducible rfl)
        try simp only [Act.put, List.getElem_toArray, List.getElem_cons_zero, List.getElem_cons_succ, List.setIfInBounds_toArray, List.set_cons_zero, List.set_cons_succ]
        refine PreG.take (i := 7) (v := ?vv29) rfl (by kernel_rfl) (by kernel_rfl) (fun _ _ _ h => h) (Or.inl ⟨by rfl, ?hy29⟩) (by assumption) ?rest29
        case hy29 => intro w hSw; (try dsimp only at hSw); first | (go_simp; done) | (go_simp; with_reducible rfl)
        try simp only [Act.put, List.getElem_toArray, List.getElem_cons_zero, List.getElem_cons_succ, List.setIfInBounds_toArray, List.set_cons_zero, List.set_cons_succ]
        refine PreG.take (i := 8) (v := ?vv30) rfl (by kernel_rfl) (by kernel_rfl) (fun _ _ _ h => h) (Or.inl ⟨by rfl, ?hy30⟩) (by assumption) ?rest30
        case hy30 => intro w hSw; (try dsimp only at hSw); first | (go_simp; done) | (go_simp; with_reducible rfl)
        try simp only [Act.put, List.getElem_toArray, List.getElem_cons_zero, List.getElem_cons_succ, List.setIfInBounds_toArray, List.set_cons_zero, List.set_cons_succ]
        refine PreG.take (i := 11) (v := ?vv31) rfl (by kernel_rfl) (by kernel_rfl) (fun _ _ _ h => h) (Or.inl ⟨by rfl, ?hy31⟩) (by assumption) ?rest31
        case hy31 => intro w hSw; (try dsimp only at hSw); first | (go_simp; done) | (go_simp; with_reducible rfl)
        try simp only [Act.put, List.getElem_toArray, List.getElem_cons_zero, List.getElem_cons_succ, List.setIfInBounds_toArray, List.set_cons_zero, List.set_cons_succ]
        refine PreG.ready (rs := [9]) (by kernel_rfl) (by kernel_rfl) ?_
        refine AllPre.cons rfl (fun K hK => ?_) ?_
        · go_simp
          refine hK.out _ _ ?_ (fun hH1 => ?_)
          · exact ⟨(((S2.below (bl_alloc (Below.refl _ _) (.cells #[.int .i64 3, .string ⟨#[]⟩, .int .i64 0, .int .i64 line, .int .i64 col] 116))).below (bl_drew (Below.refl _ _))).c 1).trans rfl, (((S2.below (bl_alloc (Below.refl _ _) (.cells #[.int .i64 3, .string ⟨#[]⟩, .int .i64 0, .int .i64 line, .int .i64 col] 116))).below (bl_drew (Below.refl _ _))).c 2).trans rfl, (((S2.below (bl_alloc (Below.refl _ _) (.cells #[.int .i64 3, .string ⟨#[]⟩, .int .i64 0, .int .i64 line, .int .i64 col] 116))).below (bl_drew (Below.refl _ _))).c 3).trans rfl⟩
          clear hK K hH0
          try simp only [Act.put, List.getElem_toArray, List.getElem_cons_zero, List.getElem_cons_succ, List.setIfInBounds_toArray, List.set_cons_zero, List.set_cons_succ]
          refine PreG.ready (rs := [10]) (by kernel_rfl) (by kernel_rfl) ?_
          refine AllPre.cons rfl (fun K hK => ?_) ?_
          · have P33 := ((S2.below (bl_alloc (Below.refl _ _) (.cells #[.int .i64 3, .string ⟨#[]⟩, .int .i64 0, .int .i64 line, .int .i64 col] 116))).below (bl_drew (Below.refl _ _)))
            have N33 : Blk (V2.alloc (.cells #[.int .i64 3, .string ⟨#[]⟩, .int .i64 0, .int .i64 line, .int .i64 col] 116)).drew (V2.heap.size) 116 #[.int .i64 3, .string ⟨#[]⟩, .int .i64 0, .int .i64 line, .int .i64 col] := ((Blk.new _ _ _).below (bl_drew (Below.refl _ _)))
            obtain ⟨D, d, X, hrun, S33, hX⟩ := P33.app (by omega) (x := ⟨3, [], 0, line, col⟩) N33
            refine step_run rfl _ _ _ rfl hrun ?_
            clear P33 N33 hrun hX
            refine hK.out _ _ ?_ (fun hH2 => ?_)
            · exact ⟨(S33.c 1).trans rfl, (S33.c 2).trans rfl, (S33.c 3).trans rfl⟩
            clear hK K hH1
            try simp only [Act.put, List.getElem_toArray, List.getElem_cons_zero, List.getElem_cons_succ, List.setIfInBounds_toArray, List.set_cons_zero, List.set_cons_succ]
            refine PreG.ready (rs := [12]) (by kernel_rfl) (by kernel_rfl) ?_
            refine AllPre.cons rfl (fun K hK => ?_) ?_
            · go_simp
              refine hK.out _ _ ?_ (fun hH3 => ?_)
              · exact ⟨(S33.c 1).trans rfl, (S33.c 2).trans rfl, (S33.c 3).trans rfl⟩
              clear hK K hH2
              try simp only [Act.put, List.getElem_toArray, List.getElem_cons_zero, List.getElem_cons_succ, List.setIfInBounds_toArray, List.set_cons_zero, List.set_cons_succ]
              refine PreG.done (by kernel_rfl) ?_
              simp only [List.drop_succ_cons, List.drop_zero]
              clear hH3
              have el : (l2 ++ [(⟨3, [], 0, line, col⟩ : Tok)]).length = l2.length + 1 := by simp
              have EB := S33.pc
              have EL := S33.bl
              have ER := S33.row
              have hrb := S33.rb
              clear S33
              have eb_z : w.heap.size < X.heap.size := EB.lt
              have eb_c0 : X.cell? ⟨w.heap.size, 0, none⟩ = some (.int .i64 0) := (EB.cell 0).trans rfl
              have eb_f0 := EB.frozen 0
              have eb_c1 : X.cell? ⟨w.heap.size, 1, none⟩ = some (.int .i64 0) := (EB.cell 1).trans rfl
              have eb_f1 := EB.frozen 1
              go_wp2_with fail
              have ER2 := own_far (own_far ER (p := ⟨w.heap.size, 0, none⟩) hrb (.int .i64 0)) (p := ⟨w.heap.size, 1, none⟩) hrb (.int .i64 0)
              have EB2 : Blk ((X.setCell ⟨w.heap.size, 0, none⟩ (.int .i64 0)).setCell ⟨w.heap.size, 1, none⟩ (.int .i64 0)) w.heap.size 29 #[.int .i64 0, .int .i64 0] := (EB.put 0 _ rfl).put 1 _ rfl
              have EL2 := bl_set (bl_set EL (p := ⟨w.heap.size, 0, none⟩) (Nat.le_refl _) (.int .i64 0)) (p := ⟨w.heap.size, 1, none⟩) (Nat.le_refl _) (.int .i64 0)
              clear EB EL ER eb_z eb_c0 eb_f0 eb_c1 eb_f1
              generalize (X.setCell ⟨w.heap.size, 0, none⟩ (.int .i64 0)).setCell ⟨w.heap.size, 1, none⟩ (.int .i64 0) = V at ER2 EB2 EL2 ⊢
              have fb_z : w.heap.size < V.heap.size := EB2.lt
              have fb_c0 : V.cell? ⟨w.heap.size, 0, none⟩ = some (.int .i64 0) := (EB2.cell 0).trans rfl
              have fb_f0 := EB2.frozen 0
              have fb_c1 : V.cell? ⟨w.heap.size, 1, none⟩ = some (.int .i64 0) := (EB2.cell 1).trans rfl
              have fb_f1 := EB2.frozen 1
              refine bodyPost_ret (v := .tuple #[.slice D (l2.length + 1) d, .agg #[.int .i64 0, .int .i64 0], .int .i64 0]) (by simp [results, Tryd.results20, go_sem, fb_z, fb_c0, fb_f0, fb_c1, fb_f1]) rfl ⟨.inr ⟨l2 ++ [⟨3, [], 0, line, col⟩], D, d, hTE, (by rw [el]), (by rw [el] at ER2 ⊢; exact ER2)⟩, EL2⟩
            exact AllPre.nil
          exact AllPre.nil
        exact AllPre.nil
theorem lex_any (s : ByteArray) (w : World) (hw : LexW w) : Calls Tryd.prog 20 #[.string s] w fun e w' => LexPost w (lexT s.data.toList) e w' := by
  unfold lexT
  by_cases h : 1048576 < s.data.toList.length
  · rw [if_pos h]
    have hs : (1048576 : Int) < s.size := by rw [Lib.size_eq]; omega
    clear h
    go_enter Tryd.func20, Tryd.ntmps20
    go_wp2_with fail
    have EB : Blk (w.alloc (.cells #[.int .i64 0, .int .i64 0] 29)) w.heap.size 29 #[.int .i64 0, .int .i64 0] := Blk.new _ _ _
    have EB2 : Blk (w.alloc (.cells #[.int .i64 1, .int .i64 1] 29)) w.heap.size 29 #[.int .i64 1, .int .i64 1] := Blk.new _ _ _
    have EL2 := bl_alloc (Below.refl w.heap.size w) (.cells #[.int .i64 1, .int .i64 1] 29)
    clear EB
    generalize w.alloc (.cells #[.int .i64 1, .int .i64 1] 29) = V at EB2 EL2 ⊢
    have fb_z : w.heap.size < V.heap.size := EB2.lt
    have fb_c0 : V.cell? ⟨w.heap.size, 0, none⟩ = some (.int .i64 1) := (EB2.cell 0).trans rfl
    have fb_f0 := EB2.frozen 0
    have fb_c1 : V.cell? ⟨w.heap.size, 1, none⟩ = some (.int .i64 1) := (EB2.cell 1).trans rfl
    have fb_f1 := EB2.frozen 1
    refine bodyPost_ret (v := .tuple #[.slice none 0 0, .agg #[.int .i64 1, .int .i64 1], .int .i64 7]) (by simp [results, Tryd.results20, go_sem, fb_z, fb_c0, fb_f0, fb_c1, fb_f1]) rfl ⟨.inl ⟨_, _, _, (by decide), rfl, rfl⟩, EL2⟩
  · rw [if_neg h]
    exact lex_short s (by rw [Lib.size_eq]; omega) w hw
end Go.Proofs.YtklomjpnmmaogaaDoor
