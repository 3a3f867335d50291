/- The law GrammarAgain, walked: it answers true. -/
import Derived.Test.YtphmmppmhphgeaaP5
import Derived.Test.YtphmmppmhphgeaaE6
import Derived.Test.YtphmmppmhphgeaaE5
import Derived.Test.YtphmmppmhphgeaaF1
set_option linter.unusedVariables false
set_option linter.unusedSimpArgs false
namespace Go.Proofs.Ytphmmppmhphgeaa
open Go.RowKit Go.Proofs.YtphmmppmhphgeaaW.PrintWords Go.Proofs.YtphmmppmhphgeaaW.PrintLast

theorem sameF_self (g : Gram) : sameF g g = true := by simp [sameF]
def emptyG : Gram := ⟨[], [], []⟩
/-- What grammar.Of tells: the grammar, the error, where. -/
def ofT (s : ByteArray) : Gram × Int × Int := match ofF s with
  | .error (a, p) => (emptyG, a, p)
  | .ok g => (g, 0, 0)
theorem empty_rep (W : World) : RepG W emptyG none none none 0 0 0 := by
  have h : ∀ {α : Type} (d : Kd α), d.C W none 0 [] := fun d => ⟨rfl, by omega, fun h => by omega⟩
  exact ⟨h _, h _, h _, Nat.le_refl _, Nat.le_refl _, Nat.le_refl _⟩
theorem of_t (s : ByteArray) (w : World) {g : Gram} {a p : Int} (ht : ofT s = (g, a, p)) : Calls Try.prog 17 #[.string s] w fun e w' => (∃ A1 A2 A3 c1 c2 c3, e = .returned (.tuple #[.agg #[.slice A1 g.terms.length c1, .slice A2 g.names.length c2, .slice A3 g.rules.length c3], .agg #[.int .i64 a, .int .i64 p]]) ∧ RepG w' g A1 A2 A3 c1 c2 c3) ∧ Below w.heap.size w w' := by
  refine (of_c s w).mono ?_
  rintro e w' ⟨he, hb⟩
  refine ⟨?_, hb⟩
  unfold ofT at ht
  cases hof : ofF s with
  | error q =>
    obtain ⟨x, y⟩ := q
    rw [hof] at he ht
    injection ht with h1 h2
    injection h2 with h2 h3
    subst h1 h2 h3
    exact ⟨none, none, none, 0, 0, 0, he, empty_rep w'⟩
  | ok g' =>
    rw [hof] at he ht
    injection ht with h1 h2
    injection h2 with h2 h3
    subst h1 h2 h3
    exact he
theorem again_cases (s : ByteArray) (hs : s.size ≤ 900) : ∃ g a p h a' p', ofT s = (g, a, p) ∧ ofT (twice s) = (h, a', p') ∧
    (a ≠ 0 ∧ a' ≠ 0 ∧ h = emptyG ∨ a = 0 ∧ ∃ l, lexE s = .ok l ∧ (60 < 2 * ends l ∧ a' = 14 ∨ ¬ 60 < 2 * ends l ∧ a' = 0 ∧ h = g)) := by
  cases hof : ofF s with
  | error q =>
    obtain ⟨a, p⟩ := q
    obtain ⟨⟨a', p'⟩, he⟩ := again_bad hs hof
    exact ⟨emptyG, a, p, emptyG, a', p', by unfold ofT; rw [hof], by unfold ofT; rw [he], Or.inl ⟨(ofF_err hof).1, (ofF_err he).1, rfl⟩⟩
  | ok g =>
    obtain ⟨l, h1, h2⟩ := again_ok hs hof
    split at h2
    · rename_i h60
      obtain ⟨p', hp⟩ := h2
      exact ⟨g, 0, 0, emptyG, 14, p', by unfold ofT; rw [hof], by unfold ofT; rw [hp], Or.inr ⟨rfl, l, h1, Or.inl ⟨h60, rfl⟩⟩⟩
    · rename_i h60
      exact ⟨g, 0, 0, g, 0, 0, by unfold ofT; rw [hof], by unfold ofT; rw [h2], Or.inr ⟨rfl, l, h1, Or.inr ⟨h60, rfl, rfl⟩⟩⟩
theorem ends_take {l : List Tok} {k : Nat} (h : k < l.length) : ends (l.take (k + 1)) = ends (l.take k) + if (l[k]'h).kind = 4 ∨ (l[k]'h).kind = 5 then 1 else 0 := by
  unfold ends
  rw [List.take_succ_eq_append_getElem h, List.countP_append, List.countP_cons, List.countP_nil]
  simp
theorem ends_le (l : List Tok) : ends l ≤ l.length := List.countP_le_length
theorem lex_ok {s : ByteArray} {l : List Tok} (hl : lexE s = .ok l) (w : World) : Calls Try.prog 26 #[.string s] w fun e w' => (∃ A c, e = .returned (.tuple #[.slice A l.length c, .agg #[.int .i64 0, .int .i64 0]]) ∧ kTok.C w' A l.length l) ∧ Below w.heap.size w w' := by
  refine (lex_c s w).mono ?_
  rintro e w' ⟨he, hb⟩
  refine ⟨?_, hb⟩
  rw [hl] at he
  obtain ⟨v, rfl, hr⟩ := he
  obtain ⟨A, c, rfl⟩ := Kd.R_slice hr
  exact ⟨A, c, rfl, (Kd.R_reads' hr).2.2⟩
structure AK (w W : World) (b3 b5 : Nat) (g : Gram) (A1 A2 A3 : Option Addr) (c1 c2 c3 : Nat) (h : Gram) (B1 B2 B3 : Option Addr) (d1 d2 d3 : Nat) (a p a' p' : Int) : Prop where
  rg : RepG W g A1 A2 A3 c1 c2 c3
  rh : RepG W h B1 B2 B3 d1 d2 d3
  p3 : W.heap[b3]? = some (.cells #[.slice A1 g.terms.length c1, .slice A2 g.names.length c2, .slice A3 g.rules.length c3] 25 (0, 0))
  p4 : W.heap[b3 + 1]? = some (.cells #[.int .i64 a, .int .i64 p] 30 (0, 0))
  p5 : W.heap[b5]? = some (.cells #[.slice B1 h.terms.length d1, .slice B2 h.names.length d2, .slice B3 h.rules.length d3] 25 (0, 0))
  p6 : W.heap[b5 + 1]? = some (.cells #[.int .i64 a', .int .i64 p'] 30 (0, 0))
  b : Below w.heap.size w W
section
variable {w W W1 : World} {b3 b5 : Nat} {g : Gram} {A1 A2 A3 : Option Addr} {c1 c2 c3 : Nat} {h : Gram} {B1 B2 B3 : Option Addr} {d1 d2 d3 : Nat} {a p a' p' : Int}
theorem AK.below_ (k : AK w W b3 b5 g A1 A2 A3 c1 c2 c3 h B1 B2 B3 d1 d2 d3 a p a' p') (hb : Below W.heap.size W W1) : AK w W1 b3 b5 g A1 A2 A3 c1 c2 c3 h B1 B2 B3 d1 d2 d3 a p a' p' :=
  ⟨k.rg.below_ hb, k.rh.below_ hb, blk_below k.p3 hb, blk_below k.p4 hb, blk_below k.p5 hb, blk_below k.p6 hb, below_then k.b k.b.size hb⟩
theorem AK.cells (k : AK w W b3 b5 g A1 A2 A3 c1 c2 c3 h B1 B2 B3 d1 d2 d3 a p a' p') :
    W.cell? ⟨b3, 0, none⟩ = some (.slice A1 g.terms.length c1) ∧ W.cell? ⟨b3, 1, none⟩ = some (.slice A2 g.names.length c2) ∧ W.cell? ⟨b3, 2, none⟩ = some (.slice A3 g.rules.length c3) ∧ W.cell? ⟨b3 + 1, 0, none⟩ = some (.int .i64 a) ∧
    W.cell? ⟨b5, 0, none⟩ = some (.slice B1 h.terms.length d1) ∧ W.cell? ⟨b5, 1, none⟩ = some (.slice B2 h.names.length d2) ∧ W.cell? ⟨b5, 2, none⟩ = some (.slice B3 h.rules.length d3) ∧ W.cell? ⟨b5 + 1, 0, none⟩ = some (.int .i64 a') :=
  ⟨(blk_cell k.p3 0).trans rfl, (blk_cell k.p3 1).trans rfl, (blk_cell k.p3 2).trans rfl, (blk_cell k.p4 0).trans rfl, (blk_cell k.p5 0).trans rfl, (blk_cell k.p5 1).trans rfl, (blk_cell k.p5 2).trans rfl, (blk_cell k.p6 0).trans rfl⟩
end
set_option maxRecDepth 100000 in
set_option maxHeartbeats 8000000 in
theorem again_c (s : ByteArray) (w : World) : Calls Try.prog 5 #[.string s] w fun e w' => e = .returned (.bool true) ∧ Below w.heap.size w w' := by
  by_cases hbig : 900 < s.size
  · go_enter Try.func5, Try.ntmps5
    go_wp2_with (go_at_call 16; refine (wakes03_c _).mono ?_; rintro e w1 ⟨rfl, hb1⟩)
    go_ret
    exact ⟨ret_bool rfl, hb1⟩
  · obtain ⟨g, a, p, h, a', p', hT1, hT2, hcs⟩ := again_cases s (by omega)
    have H1 := Aside0.mk hT1
    have H2 := Aside0.mk hT2
    clear hT1 hT2
    rcases hcs with ⟨ha, ha', rfl⟩ | ⟨rfl, l, hl, hcs⟩
    · have hab : (a != 0) = true := by rw [bne_iff_ne]; exact ha
      have hab' : (a' != 0) = true := by rw [bne_iff_ne]; exact ha'
      clear ha ha'
      go_enter Try.func5, Try.ntmps5
      go_wp2_with (first | (have hx := HK2.out; go_at_call 16; go_loud (refine (wakes03_c _).mono ?_; rintro e w9 ⟨rfl, hb9⟩; have HB9 := Aside0.mk (below_then hx.b hx.b.size hb9); clear hb9)) | (have hx := HB1.out; go_at_call 17; go_loud (refine (of_t (twice s) _ H2.out).mono ?_; rintro e w2 ⟨⟨B1, B2, B3, d1, d2, d3, rfl, hg2⟩, hb2⟩; have HK2 := Aside0.mk (AK.mk (b3 := w1.heap.size) (b5 := w2.heap.size) ((HG1.out.below_ (below_alloc (below_alloc (Below.refl _ _) (.cells #[.slice A1 g.terms.length c1, .slice A2 g.names.length c2, .slice A3 g.rules.length c3] 25 (0, 0))) (.cells #[.int .i64 a, .int .i64 p] 30 (0, 0)))).below_ (below_alloc (below_alloc hb2 (.cells #[.slice B1 emptyG.terms.length d1, .slice B2 emptyG.names.length d2, .slice B3 emptyG.rules.length d3] 25 (0, 0))) (.cells #[.int .i64 a', .int .i64 p'] 30 (0, 0)))) (hg2.below_ (below_alloc (below_alloc (Below.refl _ _) (.cells #[.slice B1 emptyG.terms.length d1, .slice B2 emptyG.names.length d2, .slice B3 emptyG.rules.length d3] 25 (0, 0))) (.cells #[.int .i64 a', .int .i64 p'] 30 (0, 0)))) (blk_alloc (blk_alloc (blk_below (blk_alloc (blk_new w1 (.cells #[.slice A1 g.terms.length c1, .slice A2 g.names.length c2, .slice A3 g.rules.length c3] 25 (0, 0))) (.cells #[.int .i64 a, .int .i64 p] 30 (0, 0))) hb2) (.cells #[.slice B1 emptyG.terms.length d1, .slice B2 emptyG.names.length d2, .slice B3 emptyG.rules.length d3] 25 (0, 0))) (.cells #[.int .i64 a', .int .i64 p'] 30 (0, 0))) (blk_alloc (blk_alloc (blk_below (blk_two w1 (.cells #[.slice A1 g.terms.length c1, .slice A2 g.names.length c2, .slice A3 g.rules.length c3] 25 (0, 0)) (.cells #[.int .i64 a, .int .i64 p] 30 (0, 0))) hb2) (.cells #[.slice B1 emptyG.terms.length d1, .slice B2 emptyG.names.length d2, .slice B3 emptyG.rules.length d3] 25 (0, 0))) (.cells #[.int .i64 a', .int .i64 p'] 30 (0, 0))) (blk_alloc (blk_new w2 (.cells #[.slice B1 emptyG.terms.length d1, .slice B2 emptyG.names.length d2, .slice B3 emptyG.rules.length d3] 25 (0, 0))) (.cells #[.int .i64 a', .int .i64 p'] 30 (0, 0))) (blk_two w2 (.cells #[.slice B1 emptyG.terms.length d1, .slice B2 emptyG.names.length d2, .slice B3 emptyG.rules.length d3] 25 (0, 0)) (.cells #[.int .i64 a', .int .i64 p'] 30 (0, 0))) (below_alloc (below_alloc (below_then (below_alloc (below_alloc HB1.out (.cells #[.slice A1 g.terms.length c1, .slice A2 g.names.length c2, .slice A3 g.rules.length c3] 25 (0, 0))) (.cells #[.int .i64 a, .int .i64 p] 30 (0, 0))) (by have := HB1.out.size; simp; omega) hb2) (.cells #[.slice B1 emptyG.terms.length d1, .slice B2 emptyG.names.length d2, .slice B3 emptyG.rules.length d3] 25 (0, 0))) (.cells #[.int .i64 a', .int .i64 p'] 30 (0, 0)))); clear hg2 hb2; obtain ⟨z1, z2, z3, z4, z5, z6, z7, z8⟩ := HK2.out.cells)) | (go_at_call 17; go_loud (refine (of_t s w H1.out).mono ?_; rintro e w1 ⟨⟨A1, A2, A3, c1, c2, c3, rfl, hg1⟩, hb1⟩; have HB1 := Aside0.mk hb1; have HG1 := Aside0.mk hg1; clear hb1 hg1)))
      go_ret
      exact ⟨ret_bool rfl, HB9.out⟩
    · have hlen := (lexE_len hl).1
      have HLX := Aside0.mk hl
      clear hl
      go_enter Try.func5, Try.ntmps5
      go_wp2_with (first | (have hx := HK2.out; go_at_call 26; go_loud (refine (lex_ok HLX.out _).mono ?_; rintro e w3 ⟨⟨L, c, rfl, hL⟩, hb3⟩; have HK3 := Aside0.mk (hx.below_ (below_alloc hb3 (.cells #[.int .i64 0, .int .i64 0] 30 (0, 0)))); have HL3 := Aside0.mk (Kd.C_below hL (below_alloc (Below.refl _ _) (.cells #[.int .i64 0, .int .i64 0] 30 (0, 0)))); clear hL hb3; obtain ⟨y1, y2, y3, y4, y5, y6, y7, y8⟩ := HK3.out.cells)) | (have hx := HB1.out; go_at_call 17; go_loud (refine (of_t (twice s) _ H2.out).mono ?_; rintro e w2 ⟨⟨B1, B2, B3, d1, d2, d3, rfl, hg2⟩, hb2⟩; have HK2 := Aside0.mk (AK.mk (b3 := w1.heap.size) (b5 := w2.heap.size) ((HG1.out.below_ (below_alloc (below_alloc (Below.refl _ _) (.cells #[.slice A1 g.terms.length c1, .slice A2 g.names.length c2, .slice A3 g.rules.length c3] 25 (0, 0))) (.cells #[.int .i64 0, .int .i64 p] 30 (0, 0)))).below_ (below_alloc (below_alloc hb2 (.cells #[.slice B1 h.terms.length d1, .slice B2 h.names.length d2, .slice B3 h.rules.length d3] 25 (0, 0))) (.cells #[.int .i64 a', .int .i64 p'] 30 (0, 0)))) (hg2.below_ (below_alloc (below_alloc (Below.refl _ _) (.cells #[.slice B1 h.terms.length d1, .slice B2 h.names.length d2, .slice B3 h.rules.length d3] 25 (0, 0))) (.cells #[.int .i64 a', .int .i64 p'] 30 (0, 0)))) (blk_alloc (blk_alloc (blk_below (blk_alloc (blk_new w1 (.cells #[.slice A1 g.terms.length c1, .slice A2 g.names.length c2, .slice A3 g.rules.length c3] 25 (0, 0))) (.cells #[.int .i64 0, .int .i64 p] 30 (0, 0))) hb2) (.cells #[.slice B1 h.terms.length d1, .slice B2 h.names.length d2, .slice B3 h.rules.length d3] 25 (0, 0))) (.cells #[.int .i64 a', .int .i64 p'] 30 (0, 0))) (blk_alloc (blk_alloc (blk_below (blk_two w1 (.cells #[.slice A1 g.terms.length c1, .slice A2 g.names.length c2, .slice A3 g.rules.length c3] 25 (0, 0)) (.cells #[.int .i64 0, .int .i64 p] 30 (0, 0))) hb2) (.cells #[.slice B1 h.terms.length d1, .slice B2 h.names.length d2, .slice B3 h.rules.length d3] 25 (0, 0))) (.cells #[.int .i64 a', .int .i64 p'] 30 (0, 0))) (blk_alloc (blk_new w2 (.cells #[.slice B1 h.terms.length d1, .slice B2 h.names.length d2, .slice B3 h.rules.length d3] 25 (0, 0))) (.cells #[.int .i64 a', .int .i64 p'] 30 (0, 0))) (blk_two w2 (.cells #[.slice B1 h.terms.length d1, .slice B2 h.names.length d2, .slice B3 h.rules.length d3] 25 (0, 0)) (.cells #[.int .i64 a', .int .i64 p'] 30 (0, 0))) (below_alloc (below_alloc (below_then (below_alloc (below_alloc HB1.out (.cells #[.slice A1 g.terms.length c1, .slice A2 g.names.length c2, .slice A3 g.rules.length c3] 25 (0, 0))) (.cells #[.int .i64 0, .int .i64 p] 30 (0, 0))) (by have := HB1.out.size; simp; omega) hb2) (.cells #[.slice B1 h.terms.length d1, .slice B2 h.names.length d2, .slice B3 h.rules.length d3] 25 (0, 0))) (.cells #[.int .i64 a', .int .i64 p'] 30 (0, 0)))); clear hg2 hb2; obtain ⟨z1, z2, z3, z4, z5, z6, z7, z8⟩ := HK2.out.cells)) | (go_at_call 17; go_loud (refine (of_t s w H1.out).mono ?_; rintro e w1 ⟨⟨A1, A2, A3, c1, c2, c3, rfl, hg1⟩, hb1⟩; have HB1 := Aside0.mk hb1; have HG1 := Aside0.mk hg1; clear hb1 hg1)))
      go_loop [10, 9] (fun i av => ∃ k : Nat, k ≤ l.length ∧ i = .int .i64 k ∧ av = .int .i64 (ends (l.take k) : Nat)) (fun i _ => l.length - (intOf i).toNat)
      case atStart => exact ⟨0, Nat.zero_le _, rfl, rfl⟩
      case round =>
        obtain ⟨k, hk, rfl, rfl⟩ := hrel
        have he1 : ends (l.take k) ≤ 2000 := by
          have h1 := ends_le (l.take k)
          rw [List.length_take] at h1
          omega
        by_cases hlt : k < l.length
        · obtain ⟨ld, eL, t1, t2, t3⟩ := at_tok HL3.out k hlt
          subst eL
          have j1 : (0 : Int) ≤ (k : Int) := by omega
          have j2 : (k : Int) < (l.length : Int) := by omega
          have HS := ends_take hlt
          obtain ⟨tk, htk⟩ : ∃ tk, tk = (l[k]'hlt) := ⟨_, rfl⟩
          rw [← htk] at t1 t2 t3 HS
          have HTK := Aside0.mk htk
          clear htk
          by_cases k4 : tk.kind = 4
          · have b4 : (tk.kind == 4) = true := by rw [k4]; rfl
            rw [if_pos (Or.inl k4)] at HS
            have HSS := Lib.hid HS
            clear k4 HS
            go_wp2
            go_round
            case rel => exact ⟨k + 1, by omega, by go_num, by rw [HSS.out]; go_num⟩
            case measure => simp [intOf]; omega
          · have b4 : (tk.kind == 4) = false := by rw [beq_eq_false_iff_ne]; exact k4
            by_cases k5 : tk.kind = 5
            · have b5 : (tk.kind == 5) = true := by rw [k5]; rfl
              rw [if_pos (Or.inr k5)] at HS
              have HSS := Lib.hid HS
              clear k4 k5 HS
              go_wp2
              go_round
              case rel => exact ⟨k + 1, by omega, by go_num, by rw [HSS.out]; go_num⟩
              case measure => simp [intOf]; omega
            · have b5 : (tk.kind == 5) = false := by rw [beq_eq_false_iff_ne]; exact k5
              rw [if_neg (by omega)] at HS
              have HSS := Lib.hid HS
              clear k4 k5 HS
              go_wp2
              go_round
              case rel => exact ⟨k + 1, by omega, by go_num, by rw [HSS.out]; go_num⟩
              case measure => simp [intOf]; omega
        · have hen : ends (l.take k) = ends l := by rw [List.take_of_length_le (by omega)]
          have hw2 : IntKind.i64.wrap (2 * ((ends (l.take k) : Nat) : Int)) = 2 * ((ends (l.take k) : Nat) : Int) := by rw [IntWalk.i64_in _ (by omega)]
          rcases hcs with ⟨h60, rfl⟩ | ⟨h60, rfl, rfl⟩
          · have q1 : (60 : Int) < 2 * ((ends (l.take k) : Nat) : Int) := by omega
            clear h60 hen
            go_wp2_with (go_at_call 16; go_loud (refine (wakes03_c _).mono ?_; rintro e w9 ⟨rfl, hb9⟩; have HB9 := Aside0.mk (below_then HK3.out.b HK3.out.b.size hb9); clear hb9))
            go_ret
            exact ⟨ret_bool rfl, HB9.out⟩
          · have q1 : ¬ (60 : Int) < 2 * ((ends (l.take k) : Nat) : Int) := by omega
            clear h60 hen
            go_wp2_with (first | (have hx := HK4.out; go_at_call 16; go_loud (refine (wakes03_c _).mono ?_; rintro e w9 ⟨rfl, hb9⟩; have HB9 := Aside0.mk (below_then hx.b hx.b.size hb9); clear hb9)) | (go_at_call 22; go_loud (refine (keepGrammar_c _ _ _ _ _ _ _ _ _ _ _ _ _ _ _ HK3.out.rg HK3.out.rh).mono ?_; rw [sameF_self]; rintro e w4 ⟨rfl, hb4⟩; have HK4 := Aside0.mk (HK3.out.below_ hb4); clear hb4)))
            go_ret
            exact ⟨ret_bool rfl, HB9.out⟩
end Go.Proofs.Ytphmmppmhphgeaa
