/- The contract of the document's answer on tokens. -/
import Derived.Test.YtphmmppmhphgeaaT1
import Derived.Test.YtphmmppmhphgeaaP8
import Derived.Test.YtphmmppmhphgeaaWa
import Derived.Test.YtphmmppmhphgeaaWLast
set_option linter.unusedVariables false
set_option linter.unusedSimpArgs false
namespace Go.Proofs.Ytphmmppmhphgeaa
open Go.RowKit Go.Proofs.YtphmmppmhphgeaaW.PrintWords Go.Proofs.YtphmmppmhphgeaaW.PrintLast

/-- While tokens are made: the result's block, the tokens' block. -/
structure LK (w W : World) (v : Value) (acc : List Tok) : Prop where
  below : Below w.heap.size w W
  r : W.heap[w.heap.size]? = some (.cells #[.slice none 0 0, .int .i64 0, .int .i64 0] 79 (0, 0))
  p : W.heap[w.heap.size + 1]? = some (.cells #[v, .int .i64 0, .int .i64 0] 79 (0, 0))
  row : kTok.R 49 W w.heap.size (fun _ => True) v acc
theorem LK.below_ {w W W1 : World} {v : Value} {acc : List Tok} (h : LK w W v acc) (hb : Below W.heap.size W W1) : LK w W1 v acc := ⟨below_then h.below h.below.size hb, blk_below h.r hb, blk_below h.p hb, Kd.R_below h.row hb⟩
theorem LK.drew_ {w W : World} {v : Value} {acc : List Tok} (h : LK w W v acc) : LK w W.drew v acc := h.below_ (below_drew1 (Below.refl _ _))
theorem LK.push {w W W1 : World} {v v1 : Value} {acc acc1 : List Tok} (h : LK w W v acc) (a : Appd kTok 49 w W w.heap.size (fun _ => True) v acc1 v1 W1) : LK w (W1.setCell ⟨w.heap.size + 1, 0, none⟩ v1) v1 acc1 := by
  have hp := blk_grown h.p a.grown (Kd.R_ne h.row h.p (by decide))
  exact ⟨below_set a.below (by omega) _ _, blk_far (blk_grown h.r a.grown (Kd.R_ne h.row h.r (by decide))) (by show w.heap.size ≠ w.heap.size + 1; omega) _, blk_set hp 0 _, Kd.R_set a.row hp (by decide) 0 _⟩
def Tok1End (w : World) : Except (Int × Int) (List Tok) → Ending → World → Prop
  | .error (a, p), e, w' => e = .returned (.agg #[.slice none 0 0, .int .i64 a, .int .i64 p])
  | .ok l, e, w' => ∃ A c, e = .returned (.agg #[.slice A l.length c, .int .i64 0, .int .i64 0]) ∧ kTok.C w' A l.length l
theorem app_tok_step {ops : Array Oper} {o : Oper} {a : Act} {Q : Exit → Act → World → Prop} {Kc : Act → World → Prop} {base : Nat} {w0 W : World} {v : Value} {ok : Nat → Prop} {s x : Operand} {xs : List Tok} {p : Tok} (hw : Region.wanted o (yielded ops a.tmps) = true) (ho : o.op = .call { callee := .builtin .append, args := #[s, x], argTypes := #[45, 45] })
    (HO : kTok.R 49 W base ok v xs) (HB : Below base w0 W) (hbase : base ≤ W.heap.size) (hl : xs.length + 1 ≤ 4000000000000) (hfresh : ∀ k, W.heap.size ≤ k → ok k) (hs : a.eval s = v) (hx : a.eval x = .slice (some ⟨W.heap.size, 0, none⟩) 1 1)
    (h : ∀ v1 w1, Appd kTok 49 w0 W base ok v (xs ++ [p]) v1 w1 → Kc (a.put o.dst v1) w1) :
    if Region.wanted o (yielded ops a.tmps) = true then Oper.wp Try.prog o a (W.alloc (.cells #[.int .i64 p.kind, .string p.text, .int .i64 p.pos] 49)) Kc Q else Kc (a.put o.dst undef) (W.alloc (.cells #[.int .i64 p.kind, .string p.text, .int .i64 p.pos] 49)) :=
  Kd.R_append_step kTok base hw s x 45 49 _ 32 ho Try.underlying45 infoTok rfl (by decide) (by decide) v xs p [.int .i64 p.kind, .string p.text, .int .i64 p.pos] ok (fun _ => False) hs hx (M_tok _ _ _ p) (fun _ h => h.elim) hfresh HO HB hbase (by omega) (fun v1 w1 h1 h2 h3 h4 => h v1 w1 ⟨h1, h2, h3, h4⟩)
theorem results_tok1 {tmps : Array Value} {W : World} {q : Nat} {A : Option Addr} {n c : Nat} {x y : Int} (t2 : tmps.getD 2 undef = .pointer (some ⟨q, 0, none⟩))
    (h : W.heap[q]? = some (.cells #[.slice A n c, .int .i64 x, .int .i64 y] 79 (0, 0))) :
    (results Try.f50 tmps).run Try.prog W = .ok (.agg #[.slice A n c, .int .i64 x, .int .i64 y]) W := by
  have d1 := blk_cell h 0
  have d4 := blk_cell h 1
  have d5 := blk_cell h 2
  simp only [List.getElem?_toArray, List.getElem?_cons_zero, List.getElem?_cons_succ] at d1 d4 d5
  simp only [Array.getD_eq_getD_getElem?] at t2
  simp [results, Try.results50, go_sem, d1, d4, d5, t2]
theorem slice_str (s : ByteArray) (a b : Nat) (h1 : a ≤ b) (h2 : b ≤ s.size) (W : World) : (Instr.slice 9 (.string s) (some (.int .i64 (a : Int))) (some (.int .i64 (b : Int))) none).run Try.prog W = .ok (.string (s.extract a b)) W := by
  have h := Go.run_slice_string (P := Try.prog) W 9 s .i64 .i64 (a : Int) (b : Int) Try.underlying9 (by omega) (by omega) (by omega)
  rw [Int.toNat_natCast, Int.toNat_natCast] at h
  exact h
theorem extract_to (s : ByteArray) (i n : Nat) : s.extract i (i + n) = ofL (((bsl s).drop i).take n) := by
  rw [Nat.add_comm]
  exact extract_mid s i n

set_option maxRecDepth 100000 in
set_option maxHeartbeats 16000000 in
theorem tokens1_c (s : ByteArray) (w : World) : Calls Try.prog 50 #[.string s] w fun e w' => Tok1End w (lexE s) e w' ∧ Below w.heap.size w w' := by
  have hr0 := blk_new w (.cells #[.slice none 0 0, .int .i64 0, .int .i64 0] 79 (0, 0))
  have HB0 := Aside0.mk ((Below.refl w.heap.size w).alloc (Nat.le_refl _) (.cells #[.slice none 0 0, .int .i64 0, .int .i64 0] 79 (0, 0)))
  have HR0 := Aside0.mk hr0
  clear hr0
  by_cases hbig : 2000 < s.size
  · have q1 : (2000 : Int) < (s.size : Int) := by omega
    have HE : Aside0 (lexE s = .error (14, 0)) := ⟨by unfold lexE; rw [if_pos hbig]⟩
    have c0 := (blk_cell HR0.out 0).trans rfl
    have c1 := (blk_cell HR0.out 1).trans rfl
    have c2 := (blk_cell HR0.out 2).trans rfl
    have f0 := blk_frozen HR0.out 0
    have f1 := blk_frozen HR0.out 1
    have f2 := blk_frozen HR0.out 2
    go_enter Try.func50, Try.ntmps50
    go_wp2
    refine bodyPost_ret (results_tok1 rfl (blk_new w _)) rfl ⟨?_, (Below.refl w.heap.size w).alloc (Nat.le_refl _) _⟩
    rw [HE.out]
    rfl
  · have q1 : ¬ (2000 : Int) < (s.size : Int) := by omega
    have hs : s.size ≤ 2000 := by omega
    have hl := size_data s
    have hm : s.size ≤ maxLen := by unfold maxLen; omega
    obtain ⟨RES, hRES⟩ : ∃ R, contF (bsl s) 0 [] = R := ⟨_, rfl⟩
    have HE : Aside0 (lexE s = lexR RES) := ⟨by rw [lexE_cont hs, hRES]⟩
    have HRES := Aside0.mk hRES
    have HL0 : Aside0 (LK w ((w.alloc (.cells #[.slice none 0 0, .int .i64 0, .int .i64 0] 79 (0, 0))).alloc (.cells #[.slice none 0 0, .int .i64 0, .int .i64 0] 79 (0, 0))) (.slice none 0 0) []) := ⟨⟨HB0.out.alloc (by simp) _, blk_alloc HR0.out _, by
      have h := blk_new (w.alloc (.cells #[.slice none 0 0, .int .i64 0, .int .i64 0] 79 (0, 0))) (.cells #[.slice none 0 0, .int .i64 0, .int .i64 0] 79 (0, 0))
      rw [show (w.alloc (.cells #[.slice none 0 0, .int .i64 0, .int .i64 0] 79 (0, 0))).heap.size = w.heap.size + 1 by simp] at h
      exact h, Kd.R_nil _ _ _ _ _⟩⟩
    clear hRES HB0 HR0
    go_enter Try.func50, Try.ntmps50
    go_wp2
    go_loopw [4] (fun iv wr => ∃ (i n : Nat) (A : Option Addr) (c : Nat) (acc : List Tok), i ≤ s.size ∧ iv = .int .i64 i ∧ acc.length = n ∧ n ≤ i ∧ Aside0 (contF (bsl s) i acc = RES) ∧ Aside0 (LK w wr (.slice A n c) acc)) (fun iv _ => s.size - (intOf iv).toNat)
    case atStart => exact ⟨0, 0, none, 0, [], Nat.zero_le _, rfl, rfl, Nat.le_refl _, HRES, HL0⟩
    case round =>
      clear HL0 HRES
      obtain ⟨i, n, A, c, acc, hi, rfl, hacc, hni, HC, HL⟩ := hrel
      have z0 := (blk_cell HL.out.p 0).trans rfl
      have zf := blk_frozen HL.out.p 0
      by_cases hlt : i < s.size
      · have hlb : i < (bsl s).length := by omega
        have hwi : IntKind.i64.wrap ((i : Int) + 1) = (i : Int) + 1 := IntWalk.i64_in _ (by omega)
        obtain ⟨ch, hch⟩ : ∃ ch : UInt8, ch = s[i]'hlt := ⟨_, rfl⟩
        have hchb : (bsl s)[i]'hlb = ch := by rw [hch]; rfl
        by_cases k1 : ch.toNat = 32 ∨ ch.toNat = 9 ∨ ch.toNat = 10
        · have HN := Aside0.mk ((contF_blank hlb (by rw [hchb]; exact k1)).symm.trans HC.out)
          have hdisj : ((ch.toNat : Int) == 32) = true ∨ (((ch.toNat : Int) == 32) = false ∧ ((ch.toNat : Int) == 9) = true) ∨ (((ch.toNat : Int) == 32) = false ∧ ((ch.toNat : Int) == 9) = false ∧ ((ch.toNat : Int) == 10) = true) := by
            rcases k1 with k | k | k <;> rw [k] <;> decide
          clear k1
          rw [hch] at hdisj
          rcases hdisj with b1 | ⟨b1, b2⟩ | ⟨b1, b2, b3⟩
          all_goals
            go_wp2
            go_roundw
            case rel => exact ⟨i + 1, n, A, c, acc, by omega, by go_num, hacc, by omega, HN, HL⟩
            case measure => simp [intOf]; omega
        · have b1 : (((s[i]'hlt).toNat : Int) == 32) = false := by rw [← hch, beq_eq_false_iff_ne]; omega
          have b2 : (((s[i]'hlt).toNat : Int) == 9) = false := by rw [← hch, beq_eq_false_iff_ne]; omega
          have b3 : (((s[i]'hlt).toNat : Int) == 10) = false := by rw [← hch, beq_eq_false_iff_ne]; omega
          have hk1 : ¬ ((bsl s)[i].toNat = 32 ∨ (bsl s)[i].toNat = 9 ∨ (bsl s)[i].toNat = 10) := by rw [hchb]; exact k1
          by_cases k2 : ch.toNat = 35
          · have b4 : (((s[i]'hlt).toNat : Int) == 35) = true := by rw [← hch, k2]; rfl
            have HN := Aside0.mk ((contF_note hlb hk1 (by rw [hchb]; exact k2)).symm.trans HC.out)
            clear k1 k2 hk1 hch hchb
            go_wp2
            go_loop [6] (fun tv => ∃ j : Nat, tv = .int .i64 ((i + 1 + j : Nat) : Int) ∧ Aside0 (Run noteB ((bsl s).drop (i + 1)) j)) (fun tv => s.size - (intOf tv).toNat)
            case atStart => exact ⟨0, by go_num, ⟨Run.start _ _⟩⟩
            case round =>
              obtain ⟨j, rfl, HJ⟩ := hrel
              have hjl := HJ.out.le
              rw [List.length_drop] at hjl
              by_cases hjt : i + 1 + j < s.size
              · have hjr : j < ((bsl s).drop (i + 1)).length := by rw [List.length_drop]; omega
                have hjv : ((bsl s).drop (i + 1))[j]'hjr = s[i + 1 + j]'hjt := by rw [List.getElem_drop]; rfl
                by_cases kj : (s[i + 1 + j]'hjt).toNat = 10
                · have c1 : (((s[i + 1 + j]'hjt).toNat : Int) != 10) = false := by rw [kj]; rfl
                  have hst := HJ.out.stop hjr (by rw [hjv, kj]; rfl)
                  have HN2 := HN.out
                  rw [hst] at HN2
                  have HN3 := Aside0.mk HN2
                  clear HN2 kj hjv hst
                  go_wp2
                  go_roundw
                  case rel => exact ⟨i + 1 + j, n, A, c, acc, by omega, by go_num, hacc, by omega, HN3, HL⟩
                  case measure => simp [intOf]; omega
                · have c1 : (((s[i + 1 + j]'hjt).toNat : Int) != 10) = true := by rw [bne_iff_ne]; omega
                  have HNX := Aside0.mk (HJ.out.next hjr (by rw [hjv]; unfold noteB; rw [bne_iff_ne]; omega))
                  clear kj hjv
                  go_wp2
                  go_round
                  case rel => exact ⟨j + 1, by go_num, HNX⟩
                  case measure => simp [intOf]; omega
              · have hst := HJ.out.end_ (by rw [List.length_drop]; omega)
                have HN2 := HN.out
                rw [hst, List.length_drop] at HN2
                have e : i + 1 + ((bsl s).length - (i + 1)) = i + 1 + j := by omega
                rw [e] at HN2
                have HN3 := Aside0.mk HN2
                clear HN2 hst
                go_wp2
                go_roundw
                case rel => exact ⟨i + 1 + j, n, A, c, acc, by omega, by go_num, hacc, by omega, HN3, HL⟩
                case measure => simp [intOf]; omega
          · have b4 : (((s[i]'hlt).toNat : Int) == 35) = false := by rw [← hch, beq_eq_false_iff_ne]; omega
            have hk2 : ¬ (bsl s)[i].toNat = 35 := by rw [hchb]; exact k2
            by_cases k3 : ch.toNat = 61
            · have kk := k3
              have c3 : ch = 61 := UInt8.toNat_inj.1 (by rw [kk]; rfl)
              rw [c3] at hchb
              have b3 : (((s[i]'hlt).toNat : Int) == 61) = true := by rw [← hch, c3]; rfl
              have HN := Aside0.mk ((contF_sign (kind := 3) hlb hchb (by decide) (by decide) (by decide) (by decide) (by decide) (by decide)).symm.trans HC.out)
              clear kk k1 k2 hk1 hk2 hchb hch
              go_wp2_with (at_builtin; refine app_tok (p := ⟨3, ⟨#[61]⟩, i⟩) (base := w.heap.size) (w0 := w) (ok := fun _ => True) rfl rfl HL.out.row HL.out.below HL.out.below.size (by omega) (fun _ _ => trivial) rfl (by simp [Act.eval]) ?_; intro v4 w4 A4; obtain ⟨Av4, cv4, hv4⟩ := A4.shape; rw [hacc] at hv4; subst hv4; have HA := Aside0.mk (HL.out.push A4); have hh := blk_grown HL.out.p A4.grown (Kd.R_ne HL.out.row HL.out.p (by decide)); have d4 := blk_cell hh 0; have f4 := blk_frozen hh 0; simp only [List.getElem?_toArray, List.getElem?_cons_zero, List.getElem?_cons_succ] at d4; clear A4 hh)
              go_roundw
              case rel => exact ⟨i + 1, n + 1, Av4, cv4, _, by omega, by go_num, by rw [List.length_append, hacc]; rfl, by omega, HN, HA⟩
              case measure => simp [intOf]; omega
            · have b5 : (((s[i]'hlt).toNat : Int) == 61) = false := by rw [← hch, beq_eq_false_iff_ne]; omega
              by_cases k4 : ch.toNat = 124
              · have kk := k4
                have c4 : ch = 124 := UInt8.toNat_inj.1 (by rw [kk]; rfl)
                rw [c4] at hchb
                have b4 : (((s[i]'hlt).toNat : Int) == 124) = true := by rw [← hch, c4]; rfl
                have HN := Aside0.mk ((contF_sign (kind := 4) hlb hchb (by decide) (by decide) (by decide) (by decide) (by decide) (by decide)).symm.trans HC.out)
                clear kk k1 k2 hk1 hk2 hchb hch
                go_wp2_with (at_builtin; refine app_tok (p := ⟨4, ⟨#[124]⟩, i⟩) (base := w.heap.size) (w0 := w) (ok := fun _ => True) rfl rfl HL.out.row HL.out.below HL.out.below.size (by omega) (fun _ _ => trivial) rfl (by simp [Act.eval]) ?_; intro v4 w4 A4; obtain ⟨Av4, cv4, hv4⟩ := A4.shape; rw [hacc] at hv4; subst hv4; have HA := Aside0.mk (HL.out.push A4); have hh := blk_grown HL.out.p A4.grown (Kd.R_ne HL.out.row HL.out.p (by decide)); have d4 := blk_cell hh 0; have f4 := blk_frozen hh 0; simp only [List.getElem?_toArray, List.getElem?_cons_zero, List.getElem?_cons_succ] at d4; clear A4 hh)
                go_roundw
                case rel => exact ⟨i + 1, n + 1, Av4, cv4, _, by omega, by go_num, by rw [List.length_append, hacc]; rfl, by omega, HN, HA⟩
                case measure => simp [intOf]; omega
              · have b5' : (((s[i]'hlt).toNat : Int) == 124) = false := by rw [← hch, beq_eq_false_iff_ne]; omega
                by_cases k5 : ch.toNat = 59
                · have kk := k5
                  have c5 : ch = 59 := UInt8.toNat_inj.1 (by rw [kk]; rfl)
                  rw [c5] at hchb
                  have b5 : (((s[i]'hlt).toNat : Int) == 59) = true := by rw [← hch, c5]; rfl
                  have HN := Aside0.mk ((contF_sign (kind := 5) hlb hchb (by decide) (by decide) (by decide) (by decide) (by decide) (by decide)).symm.trans HC.out)
                  clear kk k1 k2 hk1 hk2 hchb hch
                  go_wp2_with (at_builtin; refine app_tok (p := ⟨5, ⟨#[59]⟩, i⟩) (base := w.heap.size) (w0 := w) (ok := fun _ => True) rfl rfl HL.out.row HL.out.below HL.out.below.size (by omega) (fun _ _ => trivial) rfl (by simp [Act.eval]) ?_; intro v4 w4 A4; obtain ⟨Av4, cv4, hv4⟩ := A4.shape; rw [hacc] at hv4; subst hv4; have HA := Aside0.mk (HL.out.push A4); have hh := blk_grown HL.out.p A4.grown (Kd.R_ne HL.out.row HL.out.p (by decide)); have d4 := blk_cell hh 0; have f4 := blk_frozen hh 0; simp only [List.getElem?_toArray, List.getElem?_cons_zero, List.getElem?_cons_succ] at d4; clear A4 hh)
                  go_roundw
                  case rel => exact ⟨i + 1, n + 1, Av4, cv4, _, by omega, by go_num, by rw [List.length_append, hacc]; rfl, by omega, HN, HA⟩
                  case measure => simp [intOf]; omega
                · have b5'' : (((s[i]'hlt).toNat : Int) == 59) = false := by rw [← hch, beq_eq_false_iff_ne]; omega
                  by_cases hlet : letterB ch.toNat = true
                  · clear k3 k4 k5
                    have hn0 := letter_no hlet
                    have b6 : letterB ((s[i]'hlt).toNat : Int) = true := by rw [← hch]; exact hlet
                    have hletb : letterB (bsl s)[i].toNat = true := by rw [hchb]; exact hlet
                    have HLET := Aside0.mk hletb
                    clear hn0 hlet hletb k1 k2 hk1 hk2 hch hchb
                    go_wp2_with (go_at_call 80; refine (letter1_c _ _).mono ?_; rintro e w' ⟨rfl, rfl⟩)
                    go_loop [6] (fun tv => ∃ j : Nat, tv = .int .i64 ((i + 1 + j : Nat) : Int) ∧ Aside0 (Run innerB ((bsl s).drop (i + 1)) j)) (fun tv => s.size - (intOf tv).toNat)
                    case atStart => exact ⟨0, by go_num, ⟨Run.start _ _⟩⟩
                    case round =>
                      obtain ⟨j, rfl, HJ⟩ := hrel
                      have hjl := HJ.out.le
                      rw [List.length_drop] at hjl
                      have hsx : (s.extract i (i + 1 + j)).size ≤ maxLen := by simp only [ByteArray.size_extract]; unfold maxLen; omega
                      have hbx : bsl (s.extract i (i + 1 + j)) = ((bsl s).drop i).take (1 + j) := by rw [bsl_extract, List.drop_take]; congr 1; omega
                      have hox : s.extract i (i + 1 + j) = ofL (((bsl s).drop i).take (1 + j)) := by rw [← hbx, ofL_bsl]
                      by_cases hjt : i + 1 + j < s.size
                      · have hjr : j < ((bsl s).drop (i + 1)).length := by rw [List.length_drop]; omega
                        have hjv : ((bsl s).drop (i + 1))[j]'hjr = s[i + 1 + j]'hjt := by rw [List.getElem_drop]; rfl
                        cases hin : innerB ((s[i + 1 + j]'hjt).toNat : Int) with
                        | true =>
                          have HNX := Aside0.mk (HJ.out.next hjr (by rw [hjv]; exact hin))
                          have HIN := Aside0.mk hin
                          clear hjv hbx hox hin
                          go_wp2_with (go_at_call 81; refine (more1_c _ _).mono ?_; rw [HIN.out]; rintro e w' ⟨rfl, rfl⟩)
                          go_round
                          case rel => exact ⟨j + 1, by go_num, HNX⟩
                          case measure => simp [intOf]; omega
                        | false =>
                          have hst := HJ.out.stop hjr (by rw [hjv]; exact hin)
                          have HIN := Aside0.mk hin
                          have HCT := Aside0.mk ((contF_letter (acc := acc) hlb HLET.out hst).symm.trans HC.out)
                          clear hjv hin hst
                          obtain ⟨X, hX⟩ : ∃ X, X = s.extract i (i + 1 + j) := ⟨_, rfl⟩
                          have hsl : ∀ W : World, (Instr.slice 9 (.string s) (some (.int .i64 (i : Int))) (some (.int .i64 ((i : Int) + 1 + (j : Int)))) none).run Try.prog W = .ok (.string X) W := fun W => by
                            rw [hX, show ((i : Int) + 1 + (j : Int)) = ((i + 1 + j : Nat) : Int) by omega]
                            exact slice_str s i (i + 1 + j) (by omega) (by omega) W
                          rw [← hX] at hsx hbx hox
                          have hbx' : isNameF (((bsl s).drop i).take (1 + j)) = isNameF (bsl X) := by rw [hbx]
                          have HOX := Aside0.mk hox
                          have HSX := Aside0.mk hsx
                          rw [hbx'] at HCT
                          clear hX hbx hox hsx hbx'
                          cases hnm : isNameF (bsl X) with
                          | false =>
                            have HX := Aside0.mk (show RES = .error i from by have := HCT.out; rw [hnm] at this; exact this.symm)
                            have HNM := Aside0.mk hnm
                            clear hnm
                            have e0 := (blk_cell HL.out.r 0).trans rfl
                            have e1 := (blk_cell HL.out.r 1).trans rfl
                            have e2 := (blk_cell HL.out.r 2).trans rfl
                            have f0 := blk_frozen HL.out.r 0
                            have f1 := blk_frozen HL.out.r 1
                            have f2 := blk_frozen HL.out.r 2
                            go_wp2_with (first | (go_at_call 81; refine (more1_c _ _).mono ?_; rw [HIN.out]; rintro e w' ⟨rfl, rfl⟩) | (go_at_call 60; refine (isName1_c X _ HSX.out).mono ?_; rw [HNM.out]; rintro e w' ⟨rfl, rfl⟩))
                            refine bodyPost_ret (results_tok1 rfl (blk_set (blk_set (blk_set HL.out.r 0 _) 1 _) 2 _)) rfl ⟨?_, below_set (below_set (below_set HL.out.below (Nat.le_refl _) _ _) (Nat.le_refl _) _ _) (Nat.le_refl _) _ _⟩
                            rw [HE.out, HX.out]
                            rfl
                          | true =>
                            have HN := Aside0.mk (show contF (bsl s) (i + (1 + j)) (acc ++ [⟨1, X, i⟩]) = RES from by have := HCT.out; rw [hnm, ← HOX.out] at this; exact this)
                            have HNM := Aside0.mk hnm
                            clear hnm
                            go_wp2_with (first | (go_at_call 81; refine (more1_c _ _).mono ?_; rw [HIN.out]; rintro e w' ⟨rfl, rfl⟩) | (go_at_call 60; refine (isName1_c X _ HSX.out).mono ?_; rw [HNM.out]; rintro e w' ⟨rfl, rfl⟩))
                            refine start_ (n := 12) (S := fun w' => w'.heap[w.heap.size + 1]? = some (.cells #[.slice A n c, .int .i64 0, .int .i64 0] 79 (0, 0))) (ds := [11]) (lb 12 0x0) (by kernel_rfl) rfl (by kernel_rfl) (HL.out.drew_.p) (fun hHeld => ?_)
                            refine pure_ (i := 0) (N := (some 102)) (v := ?_) (a' := ?_) (lb 12 0x1) rfl rfl (by kernel_rfl) (fun _ _ _ h => h) (Or.inl ⟨by rfl, ?_⟩) ?_ ?_
                            rotate_left
                            · (intro w'; go_simp; with_reducible rfl)
                            rotate_left
                            · (simp only [Act.put, List.setIfInBounds_toArray, List.set_cons_zero, List.set_cons_succ]; rfl)
                            refine pure_ (i := 2) (N := (some 104)) (v := ?_) (a' := ?_) (lb 12 0x5) rfl rfl (by kernel_rfl) (fun _ _ _ h => h) (Or.inl ⟨by rfl, ?_⟩) ?_ ?_
                            rotate_left
                            · (intro w'; go_simp; with_reducible rfl)
                            rotate_left
                            · (simp only [Act.put, List.setIfInBounds_toArray, List.set_cons_zero, List.set_cons_succ]; rfl)
                            refine pure_ (i := 3) (N := (some 105)) (v := ?_) (a' := ?_) (lb 12 0xd) rfl rfl (by kernel_rfl) (fun _ _ _ h => h) (Or.inl ⟨by rfl, ?_⟩) ?_ ?_
                            rotate_left
                            · (intro w'; go_simp; with_reducible rfl)
                            rotate_left
                            · (simp only [Act.put, List.setIfInBounds_toArray, List.set_cons_zero, List.set_cons_succ]; rfl)
                            refine pure_ (i := 4) (N := (some 106)) (v := ?_) (a' := ?_) (lb 12 0x1d) rfl rfl (by kernel_rfl) (fun _ _ _ h => h) (Or.inl ⟨by rfl, ?_⟩) ?_ ?_
                            rotate_left
                            · (intro w'; go_simp; with_reducible rfl)
                            rotate_left
                            · (simp only [Act.put, List.setIfInBounds_toArray, List.set_cons_zero, List.set_cons_succ]; rfl)
                            refine pure_ (i := 5) (N := (some 107)) (v := ?_) (a' := ?_) (lb 12 0x3d) rfl rfl (by kernel_rfl) (fun _ _ _ h => h) (Or.inl ⟨by rfl, ?_⟩) ?_ ?_
                            rotate_left
                            · (intro w'; go_simp; with_reducible rfl)
                            rotate_left
                            · (simp only [Act.put, List.setIfInBounds_toArray, List.set_cons_zero, List.set_cons_succ]; rfl)
                            refine pure_ (i := 6) (N := (some 108)) (v := ?_) (a' := ?_) (lb 12 0x7d) rfl rfl (by kernel_rfl) (fun _ _ _ h => h) (Or.inl ⟨by rfl, ?_⟩) ?_ ?_
                            rotate_left
                            · (intro w'; go_simp; with_reducible rfl)
                            rotate_left
                            · (simp only [Act.put, List.setIfInBounds_toArray, List.set_cons_zero, List.set_cons_succ]; rfl)
                            refine pure_ (i := 7) (N := (some 109)) (v := ?_) (a' := ?_) (lb 12 0xfd) rfl rfl (by kernel_rfl) (fun _ _ _ h => h) (Or.inl ⟨by rfl, ?_⟩) ?_ ?_
                            rotate_left
                            · (intro w'; go_simp; with_reducible rfl)
                            rotate_left
                            · (simp only [Act.put, List.setIfInBounds_toArray, List.set_cons_zero, List.set_cons_succ]; rfl)
                            refine take_ (i := 1) (N := (some 103)) (v := ?_) (a' := ?_) (lb 12 0xff) rfl rfl (by kernel_rfl) (fun _ _ _ h => h) (Or.inl ⟨by rfl, ?_⟩) hHeld ?_ ?_
                            rotate_left
                            · (rintro w' s0; have d0 := (blk_cell s0 0).trans rfl; go_simp; with_reducible rfl)
                            rotate_left
                            · (simp only [Act.put, List.setIfInBounds_toArray, List.set_cons_zero, List.set_cons_succ]; rfl)
                            refine one_ (i := 8) (N := (some 110)) (lb 12 0x1ff) rfl rfl (by kernel_rfl) (by decide) (fun K hK => ?_)
                            refine value_ (w1 := ?_) (v := ?_) (by rfl) rfl ?_ ?_
                            rotate_left 2
                            · (go_simp; constructor; rfl; rfl)
                            refine hK.out _ _ (blk_alloc hHeld _) (fun hHeld => ?_)
                            clear hK K
                            refine norm_ (a' := ?_) ?_ ?_
                            rotate_left
                            · (show Act.put _ (some 110) _ = _; simp only [Act.put, List.setIfInBounds_toArray, List.set_cons_zero, List.set_cons_succ]; rfl)
                            refine one_ (i := 9) (N := (some 111)) (lb 12 0x3ff) rfl rfl (by kernel_rfl) (by decide) (fun K hK => ?_)
                            (refine app_tok_step (p := ⟨1, X, i⟩) (base := w.heap.size) (w0 := w) (ok := fun _ => True) (by rfl) rfl HL.out.drew_.row HL.out.drew_.below HL.out.drew_.below.size (by omega) (fun _ _ => trivial) (by simp [Act.eval]) (by simp [Act.eval]) ?_; intro v4 w4 A4; obtain ⟨Av4, cv4, hv4⟩ := A4.shape; rw [hacc] at hv4; subst hv4; have HA := Aside0.mk (HL.out.drew_.push A4); have hh := blk_grown HL.out.drew_.p A4.grown (Kd.R_ne HL.out.drew_.row HL.out.drew_.p (by decide)); have d4 := blk_cell hh 0; have f4 := blk_frozen hh 0; simp only [List.getElem?_toArray, List.getElem?_cons_zero, List.getElem?_cons_succ] at d4; have HH4 := Aside0.mk hh; clear A4 hh; refine hK.out _ _ HH4.out (fun hHeld => ?_))
                            skip
                            clear hK K
                            refine norm_ (a' := ?_) ?_ ?_
                            rotate_left
                            · (show Act.put _ (some 111) _ = _; simp only [Act.put, List.setIfInBounds_toArray, List.set_cons_zero, List.set_cons_succ]; rfl)
                            refine pure_ (i := 10) (N := (some 112)) (v := ?_) (a' := ?_) (lb 12 0x7ff) rfl rfl (by kernel_rfl) (fun _ _ _ h => h) (Or.inl ⟨by rfl, ?_⟩) ?_ ?_
                            rotate_left
                            · (intro w'; go_simp; with_reducible rfl)
                            rotate_left
                            · (simp only [Act.put, List.setIfInBounds_toArray, List.set_cons_zero, List.set_cons_succ]; rfl)
                            refine last_ (i := 11) (N := none) (lb 12 0xfff) rfl rfl (by kernel_rfl) (by decide) (fun K hK => ?_)
                            skip
                            refine skip_ (w1 := ?_) (by rfl) rfl ?_ ?_
                            rotate_left
                            · (go_simp; rfl)
                            refine hK.out _ _ ?_
                            clear hK K
                            refine done_ (by kernel_rfl) ?_
                            go_wp2
                            go_roundw
                            case rel => exact ⟨i + (1 + j), n + 1, Av4, cv4, _, by omega, by go_num, by rw [List.length_append, hacc]; rfl, by omega, HN, HA⟩
                            case measure => simp [intOf]; omega
                      · have hst := HJ.out.end_ (by rw [List.length_drop]; omega)
                        have e3 : ((bsl s).drop (i + 1)).length = j := by rw [List.length_drop]; omega
                        rw [e3] at hst
                        have HCT := Aside0.mk ((contF_letter (acc := acc) hlb HLET.out hst).symm.trans HC.out)
                        clear hst e3
                        obtain ⟨X, hX⟩ : ∃ X, X = s.extract i (i + 1 + j) := ⟨_, rfl⟩
                        have hsl : ∀ W : World, (Instr.slice 9 (.string s) (some (.int .i64 (i : Int))) (some (.int .i64 ((i : Int) + 1 + (j : Int)))) none).run Try.prog W = .ok (.string X) W := fun W => by
                          rw [hX, show ((i : Int) + 1 + (j : Int)) = ((i + 1 + j : Nat) : Int) by omega]
                          exact slice_str s i (i + 1 + j) (by omega) (by omega) W
                        rw [← hX] at hsx hbx hox
                        have hbx' : isNameF (((bsl s).drop i).take (1 + j)) = isNameF (bsl X) := by rw [hbx]
                        have HOX := Aside0.mk hox
                        have HSX := Aside0.mk hsx
                        rw [hbx'] at HCT
                        clear hX hbx hox hsx hbx'
                        cases hnm : isNameF (bsl X) with
                        | false =>
                          have HX := Aside0.mk (show RES = .error i from by have := HCT.out; rw [hnm] at this; exact this.symm)
                          have HNM := Aside0.mk hnm
                          clear hnm
                          have e0 := (blk_cell HL.out.r 0).trans rfl
                          have e1 := (blk_cell HL.out.r 1).trans rfl
                          have e2 := (blk_cell HL.out.r 2).trans rfl
                          have f0 := blk_frozen HL.out.r 0
                          have f1 := blk_frozen HL.out.r 1
                          have f2 := blk_frozen HL.out.r 2
                          go_wp2_with ((go_at_call 60; refine (isName1_c X _ HSX.out).mono ?_; rw [HNM.out]; rintro e w' ⟨rfl, rfl⟩))
                          refine bodyPost_ret (results_tok1 rfl (blk_set (blk_set (blk_set HL.out.r 0 _) 1 _) 2 _)) rfl ⟨?_, below_set (below_set (below_set HL.out.below (Nat.le_refl _) _ _) (Nat.le_refl _) _ _) (Nat.le_refl _) _ _⟩
                          rw [HE.out, HX.out]
                          rfl
                        | true =>
                          have HN := Aside0.mk (show contF (bsl s) (i + (1 + j)) (acc ++ [⟨1, X, i⟩]) = RES from by have := HCT.out; rw [hnm, ← HOX.out] at this; exact this)
                          have HNM := Aside0.mk hnm
                          clear hnm
                          go_wp2_with ((go_at_call 60; refine (isName1_c X _ HSX.out).mono ?_; rw [HNM.out]; rintro e w' ⟨rfl, rfl⟩))
                          refine start_ (n := 12) (S := fun w' => w'.heap[w.heap.size + 1]? = some (.cells #[.slice A n c, .int .i64 0, .int .i64 0] 79 (0, 0))) (ds := [11]) (lb 12 0x0) (by kernel_rfl) rfl (by kernel_rfl) (HL.out.drew_.p) (fun hHeld => ?_)
                          refine pure_ (i := 0) (N := (some 102)) (v := ?_) (a' := ?_) (lb 12 0x1) rfl rfl (by kernel_rfl) (fun _ _ _ h => h) (Or.inl ⟨by rfl, ?_⟩) ?_ ?_
                          rotate_left
                          · (intro w'; go_simp; with_reducible rfl)
                          rotate_left
                          · (simp only [Act.put, List.setIfInBounds_toArray, List.set_cons_zero, List.set_cons_succ]; rfl)
                          refine pure_ (i := 2) (N := (some 104)) (v := ?_) (a' := ?_) (lb 12 0x5) rfl rfl (by kernel_rfl) (fun _ _ _ h => h) (Or.inl ⟨by rfl, ?_⟩) ?_ ?_
                          rotate_left
                          · (intro w'; go_simp; with_reducible rfl)
                          rotate_left
                          · (simp only [Act.put, List.setIfInBounds_toArray, List.set_cons_zero, List.set_cons_succ]; rfl)
                          refine pure_ (i := 3) (N := (some 105)) (v := ?_) (a' := ?_) (lb 12 0xd) rfl rfl (by kernel_rfl) (fun _ _ _ h => h) (Or.inl ⟨by rfl, ?_⟩) ?_ ?_
                          rotate_left
                          · (intro w'; go_simp; with_reducible rfl)
                          rotate_left
                          · (simp only [Act.put, List.setIfInBounds_toArray, List.set_cons_zero, List.set_cons_succ]; rfl)
                          refine pure_ (i := 4) (N := (some 106)) (v := ?_) (a' := ?_) (lb 12 0x1d) rfl rfl (by kernel_rfl) (fun _ _ _ h => h) (Or.inl ⟨by rfl, ?_⟩) ?_ ?_
                          rotate_left
                          · (intro w'; go_simp; with_reducible rfl)
                          rotate_left
                          · (simp only [Act.put, List.setIfInBounds_toArray, List.set_cons_zero, List.set_cons_succ]; rfl)
                          refine pure_ (i := 5) (N := (some 107)) (v := ?_) (a' := ?_) (lb 12 0x3d) rfl rfl (by kernel_rfl) (fun _ _ _ h => h) (Or.inl ⟨by rfl, ?_⟩) ?_ ?_
                          rotate_left
                          · (intro w'; go_simp; with_reducible rfl)
                          rotate_left
                          · (simp only [Act.put, List.setIfInBounds_toArray, List.set_cons_zero, List.set_cons_succ]; rfl)
                          refine pure_ (i := 6) (N := (some 108)) (v := ?_) (a' := ?_) (lb 12 0x7d) rfl rfl (by kernel_rfl) (fun _ _ _ h => h) (Or.inl ⟨by rfl, ?_⟩) ?_ ?_
                          rotate_left
                          · (intro w'; go_simp; with_reducible rfl)
                          rotate_left
                          · (simp only [Act.put, List.setIfInBounds_toArray, List.set_cons_zero, List.set_cons_succ]; rfl)
                          refine pure_ (i := 7) (N := (some 109)) (v := ?_) (a' := ?_) (lb 12 0xfd) rfl rfl (by kernel_rfl) (fun _ _ _ h => h) (Or.inl ⟨by rfl, ?_⟩) ?_ ?_
                          rotate_left
                          · (intro w'; go_simp; with_reducible rfl)
                          rotate_left
                          · (simp only [Act.put, List.setIfInBounds_toArray, List.set_cons_zero, List.set_cons_succ]; rfl)
                          refine take_ (i := 1) (N := (some 103)) (v := ?_) (a' := ?_) (lb 12 0xff) rfl rfl (by kernel_rfl) (fun _ _ _ h => h) (Or.inl ⟨by rfl, ?_⟩) hHeld ?_ ?_
                          rotate_left
                          · (rintro w' s0; have d0 := (blk_cell s0 0).trans rfl; go_simp; with_reducible rfl)
                          rotate_left
                          · (simp only [Act.put, List.setIfInBounds_toArray, List.set_cons_zero, List.set_cons_succ]; rfl)
                          refine one_ (i := 8) (N := (some 110)) (lb 12 0x1ff) rfl rfl (by kernel_rfl) (by decide) (fun K hK => ?_)
                          refine value_ (w1 := ?_) (v := ?_) (by rfl) rfl ?_ ?_
                          rotate_left 2
                          · (go_simp; constructor; rfl; rfl)
                          refine hK.out _ _ (blk_alloc hHeld _) (fun hHeld => ?_)
                          clear hK K
                          refine norm_ (a' := ?_) ?_ ?_
                          rotate_left
                          · (show Act.put _ (some 110) _ = _; simp only [Act.put, List.setIfInBounds_toArray, List.set_cons_zero, List.set_cons_succ]; rfl)
                          refine one_ (i := 9) (N := (some 111)) (lb 12 0x3ff) rfl rfl (by kernel_rfl) (by decide) (fun K hK => ?_)
                          (refine app_tok_step (p := ⟨1, X, i⟩) (base := w.heap.size) (w0 := w) (ok := fun _ => True) (by rfl) rfl HL.out.drew_.row HL.out.drew_.below HL.out.drew_.below.size (by omega) (fun _ _ => trivial) (by simp [Act.eval]) (by simp [Act.eval]) ?_; intro v4 w4 A4; obtain ⟨Av4, cv4, hv4⟩ := A4.shape; rw [hacc] at hv4; subst hv4; have HA := Aside0.mk (HL.out.drew_.push A4); have hh := blk_grown HL.out.drew_.p A4.grown (Kd.R_ne HL.out.drew_.row HL.out.drew_.p (by decide)); have d4 := blk_cell hh 0; have f4 := blk_frozen hh 0; simp only [List.getElem?_toArray, List.getElem?_cons_zero, List.getElem?_cons_succ] at d4; have HH4 := Aside0.mk hh; clear A4 hh; refine hK.out _ _ HH4.out (fun hHeld => ?_))
                          skip
                          clear hK K
                          refine norm_ (a' := ?_) ?_ ?_
                          rotate_left
                          · (show Act.put _ (some 111) _ = _; simp only [Act.put, List.setIfInBounds_toArray, List.set_cons_zero, List.set_cons_succ]; rfl)
                          refine pure_ (i := 10) (N := (some 112)) (v := ?_) (a' := ?_) (lb 12 0x7ff) rfl rfl (by kernel_rfl) (fun _ _ _ h => h) (Or.inl ⟨by rfl, ?_⟩) ?_ ?_
                          rotate_left
                          · (intro w'; go_simp; with_reducible rfl)
                          rotate_left
                          · (simp only [Act.put, List.setIfInBounds_toArray, List.set_cons_zero, List.set_cons_succ]; rfl)
                          refine last_ (i := 11) (N := none) (lb 12 0xfff) rfl rfl (by kernel_rfl) (by decide) (fun K hK => ?_)
                          skip
                          refine skip_ (w1 := ?_) (by rfl) rfl ?_ ?_
                          rotate_left
                          · (go_simp; rfl)
                          refine hK.out _ _ ?_
                          clear hK K
                          refine done_ (by kernel_rfl) ?_
                          go_wp2
                          go_roundw
                          case rel => exact ⟨i + (1 + j), n + 1, Av4, cv4, _, by omega, by go_num, by rw [List.length_append, hacc]; rfl, by omega, HN, HA⟩
                          case measure => simp [intOf]; omega
                  · by_cases hq39 : ch.toNat = 39
                    · clear k3 k4 k5 hlet
                      have b7 : (((s[i]'hlt).toNat : Int) == 39) = true := by rw [← hch, hq39]; rfl
                      have hqb : (bsl s)[i].toNat = 39 := by rw [hchb]; exact hq39
                      have HQB := Aside0.mk hqb
                      have b6 : letterB ((s[i]'hlt).toNat : Int) = false := by rw [← hch, hq39]; decide
                      clear hq39 hqb k1 k2 hk1 hk2 hch hchb
                      go_wp2_with (go_at_call 80; refine (letter1_c _ _).mono ?_; rw [b6]; rintro e w' ⟨rfl, rfl⟩)
                      go_loop [6] (fun tv => ∃ j : Nat, tv = .int .i64 ((i + 1 + j : Nat) : Int) ∧ Aside0 (Run (fun x => x != 39) ((bsl s).drop (i + 1)) j)) (fun tv => s.size - (intOf tv).toNat)
                      case atStart => exact ⟨0, by go_num, ⟨Run.start _ _⟩⟩
                      case round =>
                        obtain ⟨j, rfl, HJ⟩ := hrel
                        have hjl := HJ.out.le
                        rw [List.length_drop] at hjl
                        by_cases hjt : i + 1 + j < s.size
                        · have hjr : j < ((bsl s).drop (i + 1)).length := by rw [List.length_drop]; omega
                          have hjv : ((bsl s).drop (i + 1))[j]'hjr = s[i + 1 + j]'hjt := by rw [List.getElem_drop]; rfl
                          by_cases kj : (s[i + 1 + j]'hjt).toNat = 39
                          · have c1 : (((s[i + 1 + j]'hjt).toNat : Int) != 39) = false := by rw [kj]; rfl
                            have c2 : (((i + 1 + j : Nat) : Int) == (s.size : Int)) = false := by rw [beq_eq_false_iff_ne]; omega
                            have hst := HJ.out.stop hjr (by rw [hjv, kj]; rfl)
                            have hct := (contF_quote (acc := acc) hlb HQB.out hst).symm.trans HC.out
                            have hsx : (s.extract (i + 1) (i + 1 + j)).size ≤ maxLen := by simp only [ByteArray.size_extract]; unfold maxLen; omega
                            have hbx : bsl (s.extract (i + 1) (i + 1 + j)) = ((bsl s).drop (i + 1)).take j := by rw [bsl_extract, List.drop_take]; congr 1; omega
                            have hox : s.extract (i + 1) (i + 1 + j) = ofL (((bsl s).drop (i + 1)).take j) := by rw [← hbx, ofL_bsl]
                            obtain ⟨X, hX⟩ : ∃ X, X = s.extract (i + 1) (i + 1 + j) := ⟨_, rfl⟩
                            have hsl : ∀ W : World, (Instr.slice 9 (.string s) (some (.int .i64 ((i : Int) + 1))) (some (.int .i64 ((i : Int) + 1 + (j : Int)))) none).run Try.prog W = .ok (.string X) W := fun W => by
                              rw [hX, show ((i : Int) + 1 + (j : Int)) = ((i + 1 + j : Nat) : Int) by omega, show ((i : Int) + 1) = ((i + 1 : Nat) : Int) by omega]
                              exact slice_str s (i + 1) (i + 1 + j) (by omega) (by omega) W
                            rw [← hX] at hsx hbx hox
                            rw [← hbx] at hct
                            have HOX := Aside0.mk hox
                            have HSX := Aside0.mk hsx
                            have HCT := Aside0.mk hct
                            clear hX hox hsx hct hst hjv kj
                            cases hnm : isTermF (bsl X) with
                            | false =>
                              have HX := Aside0.mk (show RES = .error i from by have := HCT.out; rw [hnm, if_neg (fun h => by cases h.2)] at this; exact this.symm)
                              have HNM := Aside0.mk hnm
                              clear hnm hbx
                              have e0 := (blk_cell HL.out.r 0).trans rfl
                              have e1 := (blk_cell HL.out.r 1).trans rfl
                              have e2 := (blk_cell HL.out.r 2).trans rfl
                              have f0 := blk_frozen HL.out.r 0
                              have f1 := blk_frozen HL.out.r 1
                              have f2 := blk_frozen HL.out.r 2
                              go_wp2_with (go_at_call 61; refine (isTerm1_c X _ HSX.out).mono ?_; rw [HNM.out]; rintro e w' ⟨rfl, rfl⟩)
                              refine bodyPost_ret (results_tok1 rfl (blk_set (blk_set (blk_set HL.out.r 0 _) 1 _) 2 _)) rfl ⟨?_, below_set (below_set (below_set HL.out.below (Nat.le_refl _) _ _) (Nat.le_refl _) _ _) (Nat.le_refl _) _ _⟩
                              rw [HE.out, HX.out]
                              rfl
                            | true =>
                              have HN := Aside0.mk (show contF (bsl s) (i + (j + 2)) (acc ++ [⟨2, X, i⟩]) = RES from by have := HCT.out; rw [hnm, if_pos ⟨hjr, rfl⟩, ofL_bsl] at this; exact this)
                              have HNM := Aside0.mk hnm
                              clear hnm hbx
                              go_wp2_with (go_at_call 61; refine (isTerm1_c X _ HSX.out).mono ?_; rw [HNM.out]; rintro e w' ⟨rfl, rfl⟩)
                              refine start_ (n := 13) (S := fun w' => w'.heap[w.heap.size + 1]? = some (.cells #[.slice A n c, .int .i64 0, .int .i64 0] 79 (0, 0))) (ds := [12]) (lb 13 0x0) (by kernel_rfl) rfl (by kernel_rfl) (HL.out.drew_.p) (fun hHeld => ?_)
                              refine pure_ (i := 0) (N := (some 143)) (v := ?_) (a' := ?_) (lb 13 0x1) rfl rfl (by kernel_rfl) (fun _ _ _ h => h) (Or.inl ⟨by rfl, ?_⟩) ?_ ?_
                              rotate_left
                              · (intro w'; go_simp; with_reducible rfl)
                              rotate_left
                              · (simp only [Act.put, List.setIfInBounds_toArray, List.set_cons_zero, List.set_cons_succ]; rfl)
                              refine pure_ (i := 2) (N := (some 145)) (v := ?_) (a' := ?_) (lb 13 0x5) rfl rfl (by kernel_rfl) (fun _ _ _ h => h) (Or.inl ⟨by rfl, ?_⟩) ?_ ?_
                              rotate_left
                              · (intro w'; go_simp; with_reducible rfl)
                              rotate_left
                              · (simp only [Act.put, List.setIfInBounds_toArray, List.set_cons_zero, List.set_cons_succ]; rfl)
                              refine pure_ (i := 3) (N := (some 146)) (v := ?_) (a' := ?_) (lb 13 0xd) rfl rfl (by kernel_rfl) (fun _ _ _ h => h) (Or.inl ⟨by rfl, ?_⟩) ?_ ?_
                              rotate_left
                              · (intro w'; go_simp; with_reducible rfl)
                              rotate_left
                              · (simp only [Act.put, List.setIfInBounds_toArray, List.set_cons_zero, List.set_cons_succ]; rfl)
                              refine pure_ (i := 4) (N := (some 147)) (v := ?_) (a' := ?_) (lb 13 0x1d) rfl rfl (by kernel_rfl) (fun _ _ _ h => h) (Or.inl ⟨by rfl, ?_⟩) ?_ ?_
                              rotate_left
                              · (intro w'; go_simp; with_reducible rfl)
                              rotate_left
                              · (simp only [Act.put, List.setIfInBounds_toArray, List.set_cons_zero, List.set_cons_succ]; rfl)
                              refine pure_ (i := 5) (N := (some 148)) (v := ?_) (a' := ?_) (lb 13 0x3d) rfl rfl (by kernel_rfl) (fun _ _ _ h => h) (Or.inl ⟨by rfl, ?_⟩) ?_ ?_
                              rotate_left
                              · (intro w'; go_simp; with_reducible rfl)
                              rotate_left
                              · (simp only [Act.put, List.setIfInBounds_toArray, List.set_cons_zero, List.set_cons_succ]; rfl)
                              refine pure_ (i := 6) (N := (some 149)) (v := ?_) (a' := ?_) (lb 13 0x7d) rfl rfl (by kernel_rfl) (fun _ _ _ h => h) (Or.inl ⟨by rfl, ?_⟩) ?_ ?_
                              rotate_left
                              · (intro w'; go_simp; with_reducible rfl)
                              rotate_left
                              · (simp only [Act.put, List.setIfInBounds_toArray, List.set_cons_zero, List.set_cons_succ]; rfl)
                              refine pure_ (i := 7) (N := (some 150)) (v := ?_) (a' := ?_) (lb 13 0xfd) rfl rfl (by kernel_rfl) (fun _ _ _ h => h) (Or.inl ⟨by rfl, ?_⟩) ?_ ?_
                              rotate_left
                              · (intro w'; go_simp; with_reducible rfl)
                              rotate_left
                              · (simp only [Act.put, List.setIfInBounds_toArray, List.set_cons_zero, List.set_cons_succ]; rfl)
                              refine pure_ (i := 8) (N := (some 151)) (v := ?_) (a' := ?_) (lb 13 0x1fd) rfl rfl (by kernel_rfl) (fun _ _ _ h => h) (Or.inl ⟨by rfl, ?_⟩) ?_ ?_
                              rotate_left
                              · (intro w'; go_simp; with_reducible rfl)
                              rotate_left
                              · (simp only [Act.put, List.setIfInBounds_toArray, List.set_cons_zero, List.set_cons_succ]; rfl)
                              refine take_ (i := 1) (N := (some 144)) (v := ?_) (a' := ?_) (lb 13 0x1ff) rfl rfl (by kernel_rfl) (fun _ _ _ h => h) (Or.inl ⟨by rfl, ?_⟩) hHeld ?_ ?_
                              rotate_left
                              · (rintro w' s0; have d0 := (blk_cell s0 0).trans rfl; go_simp; with_reducible rfl)
                              rotate_left
                              · (simp only [Act.put, List.setIfInBounds_toArray, List.set_cons_zero, List.set_cons_succ]; rfl)
                              refine one_ (i := 9) (N := (some 152)) (lb 13 0x3ff) rfl rfl (by kernel_rfl) (by decide) (fun K hK => ?_)
                              refine value_ (w1 := ?_) (v := ?_) (by rfl) rfl ?_ ?_
                              rotate_left 2
                              · (go_simp; constructor; rfl; rfl)
                              refine hK.out _ _ (blk_alloc hHeld _) (fun hHeld => ?_)
                              clear hK K
                              refine norm_ (a' := ?_) ?_ ?_
                              rotate_left
                              · (show Act.put _ (some 152) _ = _; simp only [Act.put, List.setIfInBounds_toArray, List.set_cons_zero, List.set_cons_succ]; rfl)
                              refine one_ (i := 10) (N := (some 153)) (lb 13 0x7ff) rfl rfl (by kernel_rfl) (by decide) (fun K hK => ?_)
                              (refine app_tok_step (p := ⟨2, X, i⟩) (base := w.heap.size) (w0 := w) (ok := fun _ => True) (by rfl) rfl HL.out.drew_.row HL.out.drew_.below HL.out.drew_.below.size (by omega) (fun _ _ => trivial) (by simp [Act.eval]) (by simp [Act.eval]) ?_; intro v4 w4 A4; obtain ⟨Av4, cv4, hv4⟩ := A4.shape; rw [hacc] at hv4; subst hv4; have HA := Aside0.mk (HL.out.drew_.push A4); have hh := blk_grown HL.out.drew_.p A4.grown (Kd.R_ne HL.out.drew_.row HL.out.drew_.p (by decide)); have d4 := blk_cell hh 0; have f4 := blk_frozen hh 0; simp only [List.getElem?_toArray, List.getElem?_cons_zero, List.getElem?_cons_succ] at d4; have HH4 := Aside0.mk hh; clear A4 hh; refine hK.out _ _ HH4.out (fun hHeld => ?_))
                              skip
                              clear hK K
                              refine norm_ (a' := ?_) ?_ ?_
                              rotate_left
                              · (show Act.put _ (some 153) _ = _; simp only [Act.put, List.setIfInBounds_toArray, List.set_cons_zero, List.set_cons_succ]; rfl)
                              refine pure_ (i := 11) (N := (some 154)) (v := ?_) (a' := ?_) (lb 13 0xfff) rfl rfl (by kernel_rfl) (fun _ _ _ h => h) (Or.inl ⟨by rfl, ?_⟩) ?_ ?_
                              rotate_left
                              · (intro w'; go_simp; with_reducible rfl)
                              rotate_left
                              · (simp only [Act.put, List.setIfInBounds_toArray, List.set_cons_zero, List.set_cons_succ]; rfl)
                              refine last_ (i := 12) (N := none) (lb 13 0x1fff) rfl rfl (by kernel_rfl) (by decide) (fun K hK => ?_)
                              skip
                              refine skip_ (w1 := ?_) (by rfl) rfl ?_ ?_
                              rotate_left
                              · (go_simp; rfl)
                              refine hK.out _ _ ?_
                              clear hK K
                              refine done_ (by kernel_rfl) ?_
                              go_wp2
                              go_roundw
                              case rel => exact ⟨i + (j + 2), n + 1, Av4, cv4, _, by omega, by go_num, by rw [List.length_append, hacc]; rfl, by omega, HN, HA⟩
                              case measure => simp [intOf]; omega
                          · have c1 : (((s[i + 1 + j]'hjt).toNat : Int) != 39) = true := by rw [bne_iff_ne]; omega
                            have HNX := Aside0.mk (HJ.out.next hjr (by rw [hjv, bne_iff_ne]; omega))
                            clear kj hjv
                            go_wp2
                            go_round
                            case rel => exact ⟨j + 1, by go_num, HNX⟩
                            case measure => simp [intOf]; omega
                        · have hst := HJ.out.end_ (by rw [List.length_drop]; omega)
                          have e3 : ((bsl s).drop (i + 1)).length = j := by rw [List.length_drop]; omega
                          rw [e3] at hst
                          have hct := (contF_quote (acc := acc) hlb HQB.out hst).symm.trans HC.out
                          rw [if_neg (fun h => by omega)] at hct
                          have HX := Aside0.mk hct.symm
                          have c2 : (((i + 1 + j : Nat) : Int) == (s.size : Int)) = true := by rw [beq_iff_eq]; omega
                          clear hst e3 hct
                          have e0 := (blk_cell HL.out.r 0).trans rfl
                          have e1 := (blk_cell HL.out.r 1).trans rfl
                          have e2 := (blk_cell HL.out.r 2).trans rfl
                          have f0 := blk_frozen HL.out.r 0
                          have f1 := blk_frozen HL.out.r 1
                          have f2 := blk_frozen HL.out.r 2
                          go_wp2
                          refine bodyPost_ret (results_tok1 rfl (blk_set (blk_set (blk_set HL.out.r 0 _) 1 _) 2 _)) rfl ⟨?_, below_set (below_set (below_set HL.out.below (Nat.le_refl _) _ _) (Nat.le_refl _) _ _) (Nat.le_refl _) _ _⟩
                          rw [HE.out, HX.out]
                          rfl
                    · have b7 : (((s[i]'hlt).toNat : Int) == 39) = false := by rw [← hch, beq_eq_false_iff_ne]; omega
                      have b6 : letterB ((s[i]'hlt).toNat : Int) = false := by rw [← hch]; simpa using hlet
                      have HX := Aside0.mk (show RES = .error i from by rw [← HC.out]; exact contF_other hlb (by rw [hchb]; simpa using hlet) (by rw [hchb]; exact hq39) (by rw [hchb]; unfold signF; rw [if_neg (by omega), if_neg (by omega), if_neg (by omega)]) hk1 hk2)
                      clear hq39 hlet k1 k2 k3 k4 k5 hk1 hk2 hch hchb
                      have e0 := (blk_cell HL.out.r 0).trans rfl
                      have e1 := (blk_cell HL.out.r 1).trans rfl
                      have e2 := (blk_cell HL.out.r 2).trans rfl
                      have f0 := blk_frozen HL.out.r 0
                      have f1 := blk_frozen HL.out.r 1
                      have f2 := blk_frozen HL.out.r 2
                      go_wp2_with (go_at_call 80; refine (letter1_c _ _).mono ?_; rw [b6]; rintro e w' ⟨rfl, rfl⟩)
                      refine bodyPost_ret (results_tok1 rfl (blk_set (blk_set (blk_set HL.out.r 0 _) 1 _) 2 _)) rfl ⟨?_, below_set (below_set (below_set HL.out.below (Nat.le_refl _) _ _) (Nat.le_refl _) _ _) (Nat.le_refl _) _ _⟩
                      rw [HE.out, HX.out]
                      rfl
      · have HD : Aside0 (RES = .ok acc) := ⟨by rw [← HC.out, contF_end (by omega)]⟩
        have e0 := (blk_cell HL.out.p 0).trans rfl
        have e1 := (blk_cell HL.out.p 1).trans rfl
        have e2 := (blk_cell HL.out.p 2).trans rfl
        have r0 := (blk_cell HL.out.r 0).trans rfl
        have r1 := (blk_cell HL.out.r 1).trans rfl
        have r2 := (blk_cell HL.out.r 2).trans rfl
        have f0 := blk_frozen HL.out.r 0
        have f1 := blk_frozen HL.out.r 1
        have f2 := blk_frozen HL.out.r 2
        go_wp2
        refine bodyPost_ret (results_tok1 rfl (blk_set (blk_set (blk_set HL.out.r 0 _) 1 _) 2 _)) rfl ⟨?_, below_set (below_set (below_set HL.out.below (Nat.le_refl _) _ _) (Nat.le_refl _) _ _) (Nat.le_refl _) _ _⟩
        rw [HE.out, HD.out]
        have hrow := Kd.R_set (Kd.R_set (Kd.R_set HL.out.row HL.out.r (by decide) 0 (.slice A n c)) (blk_set HL.out.r 0 _) (by decide) 1 (.int .i64 0)) (blk_set (blk_set HL.out.r 0 _) 1 _) (by decide) 2 (.int .i64 0)
        obtain ⟨hn', _, hC'⟩ := Kd.R_reads' hrow
        rw [hacc] at hC'
        exact ⟨A, c, by rw [hacc], by rw [hacc]; exact hC'⟩
end Go.Proofs.Ytphmmppmhphgeaa
