/- The law GrammarMay, walked: it answers true. -/
import Derived.Test.YtphmmppmhphgeaaQ1
import Derived.Test.YtphmmppmhphgeaaE5
set_option linter.unusedVariables false
set_option linter.unusedSimpArgs false
namespace Go.Proofs.Ytphmmppmhphgeaa
open Go.RowKit Go.Proofs.YtphmmppmhphgeaaW.PrintWords Go.Proofs.YtphmmppmhphgeaaW.PrintLast

theorem lex_any (s : ByteArray) (w : World) : Calls Try.prog 26 #[.string s] w fun e w' => (∃ A n c a p, e = .returned (.tuple #[.slice A n c, .agg #[.int .i64 a, .int .i64 p]])) ∧ Below w.heap.size w w' := by
  refine (lex_c s w).mono ?_
  rintro e w' ⟨he, hb⟩
  refine ⟨?_, hb⟩
  cases hl : lexE s with
  | error q =>
    rw [hl] at he
    obtain ⟨a, p⟩ := q
    exact ⟨none, 0, 0, a, p, he⟩
  | ok l =>
    rw [hl] at he
    obtain ⟨v, rfl, hr⟩ := he
    obtain ⟨A, c, rfl⟩ := Kd.R_slice hr
    exact ⟨A, l.length, c, 0, 0, rfl⟩
theorem lex_ok {s : ByteArray} {l : List Tok} (hl : lexE s = .ok l) (w : World) : Calls Try.prog 26 #[.string s] w fun e w' => (∃ A c, e = .returned (.tuple #[.slice A l.length c, .agg #[.int .i64 0, .int .i64 0]]) ∧ kTok.C w' A l.length l) ∧ Below w.heap.size w w' := by
  refine (lex_c s w).mono ?_
  rintro e w' ⟨he, hb⟩
  refine ⟨?_, hb⟩
  rw [hl] at he
  obtain ⟨v, rfl, hr⟩ := he
  obtain ⟨A, c, rfl⟩ := Kd.R_slice hr
  exact ⟨A, c, rfl, (Kd.R_reads' hr).2.2⟩
structure MK (w2 W : World) (b : Nat) (g : Gram) (A1 A2 A3 : Option Addr) (c1 c2 c3 : Nat) (l : List Tok) (L : Option Addr) : Prop where
  rep : RepG W g A1 A2 A3 c1 c2 c3
  p : W.heap[b]? = some (.cells #[.slice A1 g.terms.length c1, .slice A2 g.names.length c2, .slice A3 g.rules.length c3] 25 (0, 0))
  toks : kTok.C W L l.length l
  b : Below w2.heap.size w2 W
section
variable {w2 W W1 : World} {b : Nat} {g : Gram} {A1 A2 A3 : Option Addr} {c1 c2 c3 : Nat} {l : List Tok} {L : Option Addr}
theorem MK.below_ (h : MK w2 W b g A1 A2 A3 c1 c2 c3 l L) (hb : Below W.heap.size W W1) : MK w2 W1 b g A1 A2 A3 c1 c2 c3 l L :=
  ⟨h.rep.below_ hb, blk_below h.p hb, Kd.C_below h.toks hb, below_then h.b h.b.size hb⟩
theorem MK.cells (h : MK w2 W b g A1 A2 A3 c1 c2 c3 l L) : W.cell? ⟨b, 0, none⟩ = some (.slice A1 g.terms.length c1) ∧ W.cell? ⟨b, 1, none⟩ = some (.slice A2 g.names.length c2) ∧ W.cell? ⟨b, 2, none⟩ = some (.slice A3 g.rules.length c3) :=
  ⟨(blk_cell h.p 0).trans rfl, (blk_cell h.p 1).trans rfl, (blk_cell h.p 2).trans rfl⟩
end
theorem mayL_drop {g : Gram} {l : List Tok} {k n : Nat} {left : ByteArray} {right : List Tok} (hk : k < l.length) (h : mayL g (l.drop k) n left right = true) :
    (if (l[k]'hk).kind = 3 then mayL g (l.drop (k + 1)) n left right
    else if (l[k]'hk).kind = 1 ∧ (l[k + 1]?.map fun x => x.kind) = some 3 then mayL g (l.drop (k + 1)) n (l[k]'hk).text right
    else if (l[k]'hk).kind = 4 ∨ (l[k]'hk).kind = 5 then
      if ((g.rules.take n).any fun x => isF g x left right) = true then mayL g (l.drop (k + 1)) n left []
      else match g.rules[n]? with
        | none => false
        | some x => if isF g x left right = true then mayL g (l.drop (k + 1)) (n + 1) left [] else false
    else mayL g (l.drop (k + 1)) n left (right ++ [l[k]'hk])) = true := by
  rw [List.drop_eq_getElem_cons hk, mayL_cons, List.head?_drop] at h
  exact h

theorem any_succ {l : List Rule} {p : Rule → Bool} {m : Nat} (h : m < l.length) : (l.take (m + 1)).any p = ((l.take m).any p || p (l[m]'h)) := by
  rw [List.take_succ_eq_append_getElem h, List.any_append]
  simp
set_option maxRecDepth 100000 in
set_option maxHeartbeats 8000000 in
theorem may_c (s : ByteArray) (w : World) : Calls Try.prog 4 #[.string s] w fun e w' => e = .returned (.bool true) ∧ Below w.heap.size w w' := by
  by_cases hbig : 2000 < s.size
  · go_enter Try.func4, Try.ntmps4
    go_wp2_with (go_at_call 16; refine (wakes03_c _).mono ?_; rintro e w1 ⟨rfl, hb1⟩)
    go_ret
    exact ⟨ret_bool rfl, hb1⟩
  · cases hof : ofF s with
    | error q =>
      obtain ⟨a, p⟩ := q
      obtain ⟨ha, hp0, hp1⟩ := ofF_err hof
      have hab : (a != 0) = true := by rw [bne_iff_ne]; exact ha
      have HOF := Aside0.mk hof
      clear hof ha
      go_enter Try.func4, Try.ntmps4
      go_wp2_with (first | (have hx := HB2.out; go_at_call 16; go_loud (refine (wakes03_c _).mono ?_; rintro e w3 ⟨rfl, hb3⟩; have HB3 := Aside0.mk (below_then (below_alloc HB2.out _) (by have := HB2.out.size; simp; omega) hb3); clear hb3)) | (have hx := HB1.out; go_at_call 26; go_loud (refine (lex_any _ _).mono ?_; rintro e w2 ⟨⟨A, n, c, a', p', rfl⟩, hb2⟩; have HB2 := Aside0.mk (below_then (below_alloc (below_alloc HB1.out _) _) (by have := HB1.out.size; simp; omega) hb2); have HG2 := Aside0.mk (blk_below (blk_alloc (blk_new w1 (.cells #[.slice none 0 0, .slice none 0 0, .slice none 0 0] 25 (0, 0))) (.cells #[.int .i64 a, .int .i64 p] 30 (0, 0))) hb2); have HF2 := Aside0.mk (blk_below (blk_two w1 (.cells #[.slice none 0 0, .slice none 0 0, .slice none 0 0] 25 (0, 0)) (.cells #[.int .i64 a, .int .i64 p] 30 (0, 0))) hb2); clear hb2; have z1 := blk_cell (blk_alloc HG2.out (.cells #[.int .i64 a', .int .i64 p'] 30 (0, 0))) 0; have z2 := blk_cell (blk_alloc HG2.out (.cells #[.int .i64 a', .int .i64 p'] 30 (0, 0))) 1; have z3 := blk_cell (blk_alloc HG2.out (.cells #[.int .i64 a', .int .i64 p'] 30 (0, 0))) 2; have z4 := blk_cell (blk_alloc HF2.out (.cells #[.int .i64 a', .int .i64 p'] 30 (0, 0))) 0; have z5 := blk_cell (blk_alloc HF2.out (.cells #[.int .i64 a', .int .i64 p'] 30 (0, 0))) 1; simp only [List.getElem?_toArray, List.getElem?_cons_zero, List.getElem?_cons_succ] at z1 z2 z3 z4 z5)) | (go_at_call 17; go_loud (refine (of_c s w).mono ?_; rw [HOF.out]; rintro e w1 ⟨he, hb1⟩; obtain rfl : e = .returned (.tuple #[.agg #[.slice none 0 0, .slice none 0 0, .slice none 0 0], .agg #[.int .i64 a, .int .i64 p]]) := he; have HB1 := Aside0.mk hb1; clear hb1)))
      go_ret
      exact ⟨ret_bool rfl, HB3.out⟩
    | ok g =>
      obtain ⟨l, hl, hgd, hr1, hm⟩ := may_law hof
      have hlen := (lexE_len hl).1
      have hr0 : ((g.rules.length : Int) == 0) = false := by rw [beq_eq_false_iff_ne]; omega
      have HOF := Aside0.mk hof
      have HLX := Aside0.mk hl
      have HGD := Aside0.mk hgd
      have HM0 := Aside0.mk hm
      clear hof hl hgd hm
      go_enter Try.func4, Try.ntmps4
      have hgf := good_facts HGD.out
      have hsz : g.terms.length + g.names.length ≤ 4000000000000000 := by omega
      clear hgf
      go_wp2_with (first | (have hx := HK2.out; go_at_call 23; go_loud (refine (good_c g A1 A2 A3 c1 c2 c3 _ HK2.out.rep).mono ?_; rw [HGD.out]; rintro e w3 ⟨rfl, hb3⟩; have HK3 := Aside0.mk (HK2.out.below_ hb3); clear hb3; obtain ⟨y1, y2, y3⟩ := HK3.out.cells)) | (have hx := HB1.out; go_at_call 26; go_loud (refine (lex_ok HLX.out _).mono ?_; rintro e w2 ⟨⟨L, c, rfl, hL⟩, hb2⟩; have HK2 := Aside0.mk (MK.mk (w2 := w) ((HG1.out.below_ (below_alloc (below_alloc (Below.refl _ _) (.cells #[.slice A1 g.terms.length c1, .slice A2 g.names.length c2, .slice A3 g.rules.length c3] 25 (0, 0))) (.cells #[.int .i64 0, .int .i64 0] 30 (0, 0)))).below_ (below_alloc hb2 (.cells #[.int .i64 0, .int .i64 0] 30 (0, 0)))) (blk_alloc (blk_below (blk_alloc (blk_new w1 (.cells #[.slice A1 g.terms.length c1, .slice A2 g.names.length c2, .slice A3 g.rules.length c3] 25 (0, 0))) (.cells #[.int .i64 0, .int .i64 0] 30 (0, 0))) hb2) (.cells #[.int .i64 0, .int .i64 0] 30 (0, 0))) (Kd.C_below hL (below_alloc (Below.refl _ _) (.cells #[.int .i64 0, .int .i64 0] 30 (0, 0)))) (below_alloc (below_then (below_alloc (below_alloc HB1.out _) _) (by have := HB1.out.size; simp; omega) hb2) (.cells #[.int .i64 0, .int .i64 0] 30 (0, 0)))); have HF2 := Aside0.mk (blk_alloc (blk_below (blk_two w1 (.cells #[.slice A1 g.terms.length c1, .slice A2 g.names.length c2, .slice A3 g.rules.length c3] 25 (0, 0)) (.cells #[.int .i64 0, .int .i64 0] 30 (0, 0))) hb2) (.cells #[.int .i64 0, .int .i64 0] 30 (0, 0))); have HE2 := Aside0.mk (blk_new w2 (.cells #[.int .i64 0, .int .i64 0] 30 (0, 0))); clear hb2 hL; obtain ⟨z1, z2, z3⟩ := HK2.out.cells; have z4 := blk_cell HF2.out 0; have z5 := blk_cell HE2.out 0; simp only [List.getElem?_toArray, List.getElem?_cons_zero, List.getElem?_cons_succ] at z4 z5)) | (go_at_call 17; go_loud (refine (of_c s w).mono ?_; rw [HOF.out]; rintro e w1 ⟨⟨A1, A2, A3, c1, c2, c3, rfl, hg1⟩, hb1⟩; have HB1 := Aside0.mk hb1; have HG1 := Aside0.mk hg1; clear hb1 hg1)))
      have HBW := Aside0.mk HK3.out.b
      have HM3 := Aside0.mk (MK.mk (w2 := w3) HK3.out.rep HK3.out.p HK3.out.toks (Below.refl _ _))
      clear HK2 HK3 HF2 HE2 HB1 HG1 z1 z2 z3 z4 z5 y1 y2 y3
      go_loopw [10, 7, 8, 9] (fun i nv lv rv wr => ∃ (k n : Nat) (left : ByteArray) (right : List Tok), k ≤ l.length ∧ i = .int .i64 k ∧ nv = .int .i64 n ∧ lv = .string left ∧ n ≤ k ∧ n ≤ g.rules.length ∧ right.length ≤ k ∧ Aside0 (mayL g (l.drop k) n left right = true) ∧ Aside0 (MK w3 wr w1.heap.size g A1 A2 A3 c1 c2 c3 l L) ∧ Aside0 (kTok.R 49 wr w3.heap.size (fun _ => True) rv right)) (fun i _ _ _ _ => l.length - (intOf i).toNat)
      case atStart => exact ⟨0, 0, ⟨#[]⟩, [], Nat.zero_le _, rfl, rfl, rfl, Nat.le_refl _, Nat.zero_le _, Nat.le_refl _, HM0, HM3, ⟨Kd.R_nil _ _ _ _ _⟩⟩
      case round =>
        clear HM0
        obtain ⟨k, n, left, right, hk, rfl, rfl, rfl, hnk, hng, hrk, HM, HK, HR⟩ := hrel
        by_cases hlt : k < l.length
        · have HD := Aside0.mk (mayL_drop hlt HM.out)
          obtain ⟨ld, eL, t1, t2, t3⟩ := at_tok HK.out.toks k hlt
          subst eL
          have j1 : (0 : Int) ≤ (k : Int) := by omega
          have j2 : (k : Int) < (l.length : Int) := by omega
          have hw : IntKind.i64.wrap ((k : Int) + 1) = ((k + 1 : Nat) : Int) := by rw [IntWalk.i64_in _ (by omega)]; omega
          obtain ⟨tk, htk⟩ : ∃ tk, tk = (l[k]'hlt) := ⟨_, rfl⟩
          rw [← htk] at t1 t2 t3 HD
          have HTK := Aside0.mk htk
          clear htk HM
          obtain ⟨RA, rc, rfl⟩ := Kd.R_slice HR.out
          by_cases k3 : tk.kind = 3
          · have b3 : (tk.kind == 3) = true := by rw [k3]; rfl
            have hmm := HD.out
            rw [if_pos k3] at hmm
            have HN := Aside0.mk hmm
            clear k3 hmm
            go_wp2
            go_roundw
            case rel => exact ⟨k + 1, n, left, right, by omega, by go_num, rfl, rfl, by omega, hng, by omega, HN, HK, HR⟩
            case measure => simp [intOf]; omega
          · have b3 : (tk.kind == 3) = false := by rw [beq_eq_false_iff_ne]; exact k3
            have hmm := HD.out
            rw [if_neg k3] at hmm
            by_cases k1 : tk.kind = 1
            · have b1 : (tk.kind == 1) = true := by rw [k1]; rfl
              have b4 : (tk.kind == 4) = false := by rw [k1]; rfl
              have b5 : (tk.kind == 5) = false := by rw [k1]; rfl
              by_cases hlt2 : k + 1 < l.length
              · have j3 : ((k + 1 : Nat) : Int) < (l.length : Int) := by omega
                have j4 : (0 : Int) ≤ ((k + 1 : Nat) : Int) := by omega
                obtain ⟨ld', eL, u1, u2, u3⟩ := at_tok HK.out.toks (k + 1) hlt2
                cases eL
                rw [List.getElem?_eq_getElem hlt2, Option.map_some] at hmm
                obtain ⟨tk2, htk2⟩ : ∃ tk, tk = (l[k + 1]'hlt2) := ⟨_, rfl⟩
                rw [← htk2] at u1 u2 u3 hmm
                by_cases k23 : tk2.kind = 3
                · have b23 : (tk2.kind == 3) = true := by rw [k23]; rfl
                  rw [if_pos ⟨k1, by rw [k23]⟩] at hmm
                  have HN := Aside0.mk hmm
                  clear k3 k1 k23 hmm htk2
                  go_wp2
                  go_roundw
                  case rel => exact ⟨k + 1, n, tk.text, right, by omega, by go_num, rfl, rfl, by omega, hng, by omega, HN, HK, HR⟩
                  case measure => simp [intOf]; omega
                · have b23 : (tk2.kind == 3) = false := by rw [beq_eq_false_iff_ne]; exact k23
                  rw [if_neg (fun h => k23 (by injection h.2)), if_neg (by omega)] at hmm
                  have HN := Aside0.mk hmm
                  clear k3 k1 k23 hmm htk2
                  go_wp2_with (at_builtin; refine app_tok (p := tk) rfl rfl HR.out HK.out.b HK.out.b.size (by omega) (fun _ _ => trivial) rfl (by simp [Act.eval]) ?_; intro v4 w4 A4; obtain ⟨Av4, cv4, rfl⟩ := A4.shape; have A3 := Aside0.mk A4; clear A4)
                  go_roundw
                  case rel => exact ⟨k + 1, n, left, right ++ [tk], by omega, by go_num, rfl, rfl, by omega, hng, by rw [List.length_append, List.length_singleton]; omega, HN, ⟨HM3.out.below_ A3.out.below⟩, ⟨A3.out.row⟩⟩
                  case measure => simp [intOf]; omega
              · have j3 : ¬ ((k + 1 : Nat) : Int) < (l.length : Int) := by omega
                rw [List.getElem?_eq_none (by omega), if_neg (fun h => by cases h.2), if_neg (by omega)] at hmm
                have HN := Aside0.mk hmm
                clear k3 k1 hmm
                go_wp2_with (at_builtin; refine app_tok (p := tk) rfl rfl HR.out HK.out.b HK.out.b.size (by omega) (fun _ _ => trivial) rfl (by simp [Act.eval]) ?_; intro v4 w4 A4; obtain ⟨Av4, cv4, rfl⟩ := A4.shape; have A3 := Aside0.mk A4; clear A4)
                go_roundw
                case rel => exact ⟨k + 1, n, left, right ++ [tk], by omega, by go_num, rfl, rfl, by omega, hng, by rw [List.length_append, List.length_singleton]; omega, HN, ⟨HM3.out.below_ A3.out.below⟩, ⟨A3.out.row⟩⟩
                case measure => simp [intOf]; omega
            · have b1 : (tk.kind == 1) = false := by rw [beq_eq_false_iff_ne]; exact k1
              rw [if_neg (fun h => k1 h.1)] at hmm
              by_cases k45 : tk.kind = 4 ∨ tk.kind = 5
              · rw [if_pos k45] at hmm
                rcases k45 with k4 | k5
                · have b4 : (tk.kind == 4) = true := by rw [k4]; rfl
                  clear k3 k1 k4
                  go_wp2
                  obtain ⟨wo, hwo⟩ : ∃ wo : World, wo = wr := ⟨_, rfl⟩
                  subst hwo
                  go_loopw [12, 11] (fun j cv wi => ∃ (m : Nat) (cb : Bool), m ≤ n ∧ j = .int .i64 m ∧ cv = .bool cb ∧ Aside0 (((g.rules.take m).any fun x => isF g x left right) = cb) ∧ Aside0 (MK w3 wi w1.heap.size g A1 A2 A3 c1 c2 c3 l (some ld)) ∧ Aside0 (kTok.R 49 wi w3.heap.size (fun _ => True) (.slice RA right.length rc) right)) (fun j _ _ => n - (intOf j).toNat)
                  case atStart => exact ⟨0, false, Nat.zero_le _, rfl, rfl, ⟨rfl⟩, HK, HR⟩
                  case round =>
                    clear HK HR t1 t2 t3
                    obtain ⟨m, cb, hmn, rfl, rfl, HC, HK, HR⟩ := hrel
                    obtain ⟨y1, y2, y3⟩ := HK.out.cells
                    by_cases hml : m < n
                    · have hmr : m < g.rules.length := by omega
                      cases cb with
                      | true =>
                        go_wp2
                        go_roundw
                        case rel => exact ⟨m + 1, true, by omega, by go_num, rfl, ⟨by rw [any_succ hmr, HC.out]; rfl⟩, HK, HR⟩
                        case measure => simp [intOf]; omega
                      | false =>
                        go_wp2_with (go_at_call 27; go_loud (refine (is_c g A1 A2 A3 c1 c2 c3 m left right RA rc right.length _ HK.out.rep HGD.out (Kd.R_reads' HR.out).2.2 hmr).mono ?_; rintro e w5 ⟨rfl, hb5⟩; have HK5 := Aside0.mk (HK.out.below_ hb5); have HR5 := Aside0.mk (Kd.R_below HR.out hb5); clear hb5))
                        go_roundw
                        case rel => exact ⟨m + 1, _, by omega, by go_num, rfl, ⟨by rw [any_succ hmr, HC.out, Bool.false_or]⟩, HK5, HR5⟩
                        case measure => simp [intOf]; omega
                    · obtain rfl : m = n := by omega
                      cases cb with
                      | true =>
                        rw [if_pos HC.out] at hmm
                        have HN := Aside0.mk hmm
                        clear hmm
                        go_wp2
                        go_roundw
                        case rel => exact ⟨k + 1, m, left, [], by omega, by go_num, rfl, rfl, by omega, hng, by simp, HN, HK, ⟨Kd.R_nil _ _ _ _ _⟩⟩
                        case measure => simp [intOf]; omega
                      | false =>
                        rw [if_neg (by rw [HC.out]; decide)] at hmm
                        by_cases hmr : m < g.rules.length
                        · rw [List.getElem?_eq_getElem hmr] at hmm
                          dsimp only at hmm
                          by_cases hx : isF g (g.rules[m]'hmr) left right = true
                          · rw [if_pos hx] at hmm
                            have HN := Aside0.mk hmm
                            have HX := Aside0.mk hx
                            have q1 : ¬ (g.rules.length : Int) ≤ (m : Int) := by omega
                            clear hmm hx
                            go_wp2_with (go_at_call 27; go_loud (refine (is_c g A1 A2 A3 c1 c2 c3 m left right RA rc right.length _ HK.out.rep HGD.out (Kd.R_reads' HR.out).2.2 hmr).mono ?_; rw [HX.out]; rintro e w5 ⟨rfl, hb5⟩; have HK5 := Aside0.mk (HK.out.below_ hb5); have HR5 := Aside0.mk (Kd.R_below HR.out hb5); clear hb5))
                            go_roundw
                            case rel => exact ⟨k + 1, m + 1, left, [], by omega, by go_num, by go_num, rfl, by omega, by omega, by simp, HN, HK5, ⟨Kd.R_nil _ _ _ _ _⟩⟩
                            case measure => simp [intOf]; omega
                          · rw [if_neg hx] at hmm; cases hmm
                        · rw [List.getElem?_eq_none (by omega)] at hmm; cases hmm
                · have b4 : (tk.kind == 4) = false := by rw [k5]; rfl
                  have b5 : (tk.kind == 5) = true := by rw [k5]; rfl
                  clear k3 k1 k5
                  go_wp2
                  obtain ⟨wo, hwo⟩ : ∃ wo : World, wo = wr := ⟨_, rfl⟩
                  subst hwo
                  go_loopw [12, 11] (fun j cv wi => ∃ (m : Nat) (cb : Bool), m ≤ n ∧ j = .int .i64 m ∧ cv = .bool cb ∧ Aside0 (((g.rules.take m).any fun x => isF g x left right) = cb) ∧ Aside0 (MK w3 wi w1.heap.size g A1 A2 A3 c1 c2 c3 l (some ld)) ∧ Aside0 (kTok.R 49 wi w3.heap.size (fun _ => True) (.slice RA right.length rc) right)) (fun j _ _ => n - (intOf j).toNat)
                  case atStart => exact ⟨0, false, Nat.zero_le _, rfl, rfl, ⟨rfl⟩, HK, HR⟩
                  case round =>
                    clear HK HR t1 t2 t3
                    obtain ⟨m, cb, hmn, rfl, rfl, HC, HK, HR⟩ := hrel
                    obtain ⟨y1, y2, y3⟩ := HK.out.cells
                    by_cases hml : m < n
                    · have hmr : m < g.rules.length := by omega
                      cases cb with
                      | true =>
                        go_wp2
                        go_roundw
                        case rel => exact ⟨m + 1, true, by omega, by go_num, rfl, ⟨by rw [any_succ hmr, HC.out]; rfl⟩, HK, HR⟩
                        case measure => simp [intOf]; omega
                      | false =>
                        go_wp2_with (go_at_call 27; go_loud (refine (is_c g A1 A2 A3 c1 c2 c3 m left right RA rc right.length _ HK.out.rep HGD.out (Kd.R_reads' HR.out).2.2 hmr).mono ?_; rintro e w5 ⟨rfl, hb5⟩; have HK5 := Aside0.mk (HK.out.below_ hb5); have HR5 := Aside0.mk (Kd.R_below HR.out hb5); clear hb5))
                        go_roundw
                        case rel => exact ⟨m + 1, _, by omega, by go_num, rfl, ⟨by rw [any_succ hmr, HC.out, Bool.false_or]⟩, HK5, HR5⟩
                        case measure => simp [intOf]; omega
                    · obtain rfl : m = n := by omega
                      cases cb with
                      | true =>
                        rw [if_pos HC.out] at hmm
                        have HN := Aside0.mk hmm
                        clear hmm
                        go_wp2
                        go_roundw
                        case rel => exact ⟨k + 1, m, left, [], by omega, by go_num, rfl, rfl, by omega, hng, by simp, HN, HK, ⟨Kd.R_nil _ _ _ _ _⟩⟩
                        case measure => simp [intOf]; omega
                      | false =>
                        rw [if_neg (by rw [HC.out]; decide)] at hmm
                        by_cases hmr : m < g.rules.length
                        · rw [List.getElem?_eq_getElem hmr] at hmm
                          dsimp only at hmm
                          by_cases hx : isF g (g.rules[m]'hmr) left right = true
                          · rw [if_pos hx] at hmm
                            have HN := Aside0.mk hmm
                            have HX := Aside0.mk hx
                            have q1 : ¬ (g.rules.length : Int) ≤ (m : Int) := by omega
                            clear hmm hx
                            go_wp2_with (go_at_call 27; go_loud (refine (is_c g A1 A2 A3 c1 c2 c3 m left right RA rc right.length _ HK.out.rep HGD.out (Kd.R_reads' HR.out).2.2 hmr).mono ?_; rw [HX.out]; rintro e w5 ⟨rfl, hb5⟩; have HK5 := Aside0.mk (HK.out.below_ hb5); have HR5 := Aside0.mk (Kd.R_below HR.out hb5); clear hb5))
                            go_roundw
                            case rel => exact ⟨k + 1, m + 1, left, [], by omega, by go_num, by go_num, rfl, by omega, by omega, by simp, HN, HK5, ⟨Kd.R_nil _ _ _ _ _⟩⟩
                            case measure => simp [intOf]; omega
                          · rw [if_neg hx] at hmm; cases hmm
                        · rw [List.getElem?_eq_none (by omega)] at hmm; cases hmm
              · have b4 : (tk.kind == 4) = false := by rw [beq_eq_false_iff_ne]; omega
                have b5 : (tk.kind == 5) = false := by rw [beq_eq_false_iff_ne]; omega
                rw [if_neg k45] at hmm
                have HN := Aside0.mk hmm
                clear k3 k1 k45 hmm
                go_wp2_with (at_builtin; refine app_tok (p := tk) rfl rfl HR.out HK.out.b HK.out.b.size (by omega) (fun _ _ => trivial) rfl (by simp [Act.eval]) ?_; intro v4 w4 A4; obtain ⟨Av4, cv4, rfl⟩ := A4.shape; have A3 := Aside0.mk A4; clear A4)
                go_roundw
                case rel => exact ⟨k + 1, n, left, right ++ [tk], by omega, by go_num, rfl, rfl, by omega, hng, by rw [List.length_append, List.length_singleton]; omega, HN, ⟨HM3.out.below_ A3.out.below⟩, ⟨A3.out.row⟩⟩
                case measure => simp [intOf]; omega
        · have hn : n = g.rules.length := by
            have h := HM.out
            rw [List.drop_eq_nil_of_le (by omega)] at h
            simpa [mayL] using h
          subst hn
          obtain ⟨y1, y2, y3⟩ := HK.out.cells
          go_wp2_with (go_at_call 16; go_loud (refine (wakes03_c _).mono ?_; rintro e w4 ⟨rfl, hb4⟩; have HB4 := Aside0.mk (below_then HK.out.b HK.out.b.size hb4); clear hb4))
          go_ret
          exact ⟨ret_bool rfl, below_then HBW.out HBW.out.size HB4.out⟩
end Go.Proofs.Ytphmmppmhphgeaa
