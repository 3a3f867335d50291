/- The contract of the document's answer on alternatives. -/
import Derived.Test.YtphmmppmhphgeaaP9
import Derived.Test.YtphmmppmhphgeaaC2
import Derived.Test.YtphmmppmhphgeaaT2
set_option linter.unusedVariables false
set_option linter.unusedSimpArgs false
namespace Go.Proofs.Ytphmmppmhphgeaa
open Go.RowKit Go.Proofs.YtphmmppmhphgeaaW.PrintWords Go.Proofs.YtphmmppmhphgeaaW.PrintLast

set_option maxRecDepth 100000 in
set_option maxHeartbeats 2000000 in
theorem of1_c (A : Option Addr) (c n : Nat) (l : List Tok) (en : Int) (i : Nat) (w : World) (hr : kTok.C w A n l) (hi : i ≤ 100000) :
    Calls Try.prog 82 #[.agg #[.slice A n c, .int .i64 en], .int .i64 i] w fun e w' => e = .returned (.int .i64 (posAt en l i)) ∧ Below w.heap.size w w' := by
  obtain rfl := C_len hr
  have hb := blk_new w (.cells #[.slice A l.length c, .int .i64 en] 110 (0, 0))
  have HB := Aside0.mk ((Below.refl w.heap.size w).alloc (Nat.le_refl _) (.cells #[.slice A l.length c, .int .i64 en] 110 (0, 0)))
  by_cases hlt : i < l.length
  · obtain ⟨ad, eA, h1, h2, h3⟩ := at_tok (Kd.C_below hr HB.out) i hlt
    subst eA
    have j1 : (0 : Int) ≤ (i : Int) := by omega
    have j2 : (i : Int) < (l.length : Int) := by omega
    have HP := Aside0.mk (posAt_in (en := en) hlt)
    clear hr hb
    go_enter Try.func82, Try.ntmps82
    go_wp2
    go_ret
    exact ⟨ret_int HP.out.symm, HB.out⟩
  · have j2 : ¬ (i : Int) < (l.length : Int) := by omega
    have HP := Aside0.mk (posAt_out (en := en) (l := l) (i := i) (by omega))
    clear hr hb
    go_enter Try.func82, Try.ntmps82
    go_wp2
    go_ret
    exact ⟨ret_int HP.out.symm, HB.out⟩

/-- While alternatives are made. -/
structure AL (w W : World) (A : Option Addr) (c n : Nat) (en : Int) (vo : Value) (out : List Alt) (u : Value) (acc : List Tok) : Prop where
  below : Below w.heap.size w W
  r : W.heap[w.heap.size]? = some (.cells #[.slice none 0 0, .int .i64 0, .int .i64 0] 82 (0, 0))
  p : W.heap[w.heap.size + 1]? = some (.cells #[.slice A n c, .int .i64 en] 110 (0, 0))
  row : kAlt.R 74 W w.heap.size (fun q => True ∧ some q ≠ u.ownBlock) vo out
  rt : kTok.R 49 W w.heap.size (fun q => True ∧ some q ≠ vo.ownBlock) u acc
section
variable {w W W1 : World} {A : Option Addr} {c n : Nat} {en : Int} {vo u v1 : Value} {out : List Alt} {acc acc1 : List Tok}
theorem AL.below_ (h : AL w W A c n en vo out u acc) (hb : Below W.heap.size W W1) : AL w W1 A c n en vo out u acc := ⟨below_then h.below h.below.size hb, blk_below h.r hb, blk_below h.p hb, Kd.R_below h.row hb, Kd.R_below h.rt hb⟩
theorem AL.alloc_ (h : AL w W A c n en vo out u acc) (o : Obj) : AL w (W.alloc o) A c n en vo out u acc := h.below_ (below_alloc (Below.refl _ _) o)
theorem AL.none_ (h : AL w W A c n en vo out u acc) : AL w W A c n en vo out (.slice none 0 0) [] := ⟨h.below, h.r, h.p, Kd.R_mono h.row (fun k hk => ⟨trivial, by simp [Value.ownBlock]⟩), Kd.R_nil _ _ _ _ _⟩
theorem AL.tok (h : AL w W A c n en vo out u acc) (a : Appd kTok 49 w W w.heap.size (fun q => True ∧ some q ≠ vo.ownBlock) u acc1 v1 W1) : AL w W1 A c n en vo out v1 acc1 :=
  ⟨a.below, blk_grown h.r a.grown (Kd.R_ne h.rt h.r (by decide)), blk_grown h.p a.grown (Kd.R_ne h.rt h.p (by decide)), Kd.R_after h.row a.grown a.at_, a.row⟩
end
def Alt1End (w : World) : Except (Int × Int) (List Alt) → Ending → World → Prop
  | .error (a, p), e, w' => e = .returned (.agg #[.slice none 0 0, .int .i64 a, .int .i64 p])
  | .ok l, e, w' => ∃ A c, e = .returned (.agg #[.slice A l.length c, .int .i64 0, .int .i64 0]) ∧ kAlt.C w' A l.length l
theorem results_alt1 {tmps : Array Value} {W : World} {q : Nat} {A : Option Addr} {n c : Nat} {x y : Int} (t2 : tmps.getD 4 undef = .pointer (some ⟨q, 0, none⟩))
    (h : W.heap[q]? = some (.cells #[.slice A n c, .int .i64 x, .int .i64 y] 82 (0, 0))) :
    (results Try.f51 tmps).run Try.prog W = .ok (.agg #[.slice A n c, .int .i64 x, .int .i64 y]) W := by
  have d1 := blk_cell h 0
  have d4 := blk_cell h 1
  have d5 := blk_cell h 2
  simp only [List.getElem?_toArray, List.getElem?_cons_zero, List.getElem?_cons_succ] at d1 d4 d5
  simp only [Array.getD_eq_getD_getElem?] at t2
  simp [results, Try.results51, go_sem, d1, d4, d5, t2]

set_option maxRecDepth 100000 in
set_option maxHeartbeats 16000000 in
theorem alts1_c (A : Option Addr) (c n : Nat) (l : List Tok) (en : Int) (w : World) (hr : kTok.C w A n l) (hl : l.length ≤ 2000) :
    Calls Try.prog 51 #[.slice A n c, .int .i64 en] w fun e w' => Alt1End w (readF en l) e w' ∧ Below w.heap.size w w' := by
  obtain rfl := C_len hr
  have HT := Aside0.mk hr
  obtain ⟨RES, hRES⟩ : ∃ R, readF en l = R := ⟨_, rfl⟩
  have HJ0 : Aside0 (JR en l RES 0 []) := ⟨by rw [← hRES]; exact JR.start⟩
  rw [hRES]
  have HL0 : Aside0 (AL w ((w.alloc (.cells #[.slice none 0 0, .int .i64 0, .int .i64 0] 82 (0, 0))).alloc (.cells #[.slice A l.length c, .int .i64 en] 110 (0, 0))) A c l.length en (.slice none 0 0) [] (.slice none 0 0) []) := ⟨⟨((Below.refl w.heap.size w).alloc (Nat.le_refl _) _).alloc (by simp) _, blk_alloc (blk_new w _) _, by
      have h := blk_new (w.alloc (.cells #[.slice none 0 0, .int .i64 0, .int .i64 0] 82 (0, 0))) (.cells #[.slice A l.length c, .int .i64 en] 110 (0, 0))
      rw [show (w.alloc (.cells #[.slice none 0 0, .int .i64 0, .int .i64 0] 82 (0, 0))).heap.size = w.heap.size + 1 by simp] at h
      exact h, Kd.R_nil _ _ _ _ _, Kd.R_nil _ _ _ _ _⟩⟩
  clear hr hRES
  go_enter Try.func51, Try.ntmps51
  go_wp2
  go_loopw [6, 5] (fun iv ov wr => ∃ (i n : Nat) (B : Option Addr) (d : Nat) (out : List Alt), i ≤ l.length ∧ iv = .int .i64 i ∧ ov = .slice B n d ∧ out.length = n ∧ n ≤ 60 ∧ Aside0 (JR en l RES i out) ∧ Aside0 (AL w wr A c l.length en (.slice B n d) out (.slice none 0 0) [])) (fun iv _ _ => l.length - (intOf iv).toNat)
  case atStart => exact ⟨0, 0, none, 0, [], Nat.zero_le _, rfl, rfl, rfl, by omega, HJ0, HL0⟩
  case round =>
    clear HJ0 HL0
    obtain ⟨i, n, B, d, out, hi, rfl, rfl, hon, hn60, HJ, HL⟩ := hrel
    have z0 := (blk_cell HL.out.p 0).trans rfl
    have z1 := (blk_cell HL.out.p 1).trans rfl
    by_cases hgo : i < l.length ∨ n = 0
    · have HGO : Aside0 (i < l.length ∨ out = []) := ⟨hgo.imp id (fun h => List.eq_nil_of_length_eq_zero (by omega))⟩
      by_cases hlt : i < l.length
      · obtain ⟨ad, eA, t1, t2, t3⟩ := at_tok (Kd.C_below HT.out HL.out.below) i hlt
        subst eA
        have j1 : (0 : Int) ≤ (i : Int) := by omega
        have j2 : (i : Int) < (l.length : Int) := by omega
        obtain ⟨tk, htk⟩ : ∃ tk, tk = l[i]'hlt := ⟨_, rfl⟩
        rw [← htk] at t1 t2 t3
        have HTK := Aside0.mk htk
        clear htk hgo
        by_cases k1 : tk.kind = 1
        · have b1 : (tk.kind != 1) = false := by rw [k1]; rfl
          have HK1 := Aside0.mk k1
          clear k1
          obtain ⟨wo, hwo⟩ : ∃ wo : World, wo = wr := ⟨_, rfl⟩
          subst hwo
          have HL1 := Aside0.mk (HL.out.alloc_ (.cells #[.int .i64 tk.kind, .string tk.text, .int .i64 tk.pos] 49 (0, 0)))
          have HLF := Aside0.mk (blk_new wo (.cells #[.int .i64 tk.kind, .string tk.text, .int .i64 tk.pos] 49 (0, 0)))
          have hwi : IntKind.i64.wrap ((i : Int) + 1) = (i : Int) + 1 := IntWalk.i64_in _ (by omega)
          have hkk : (l[i]'hlt).kind = 1 := by rw [← HTK.out]; exact HK1.out
          have y0 := (blk_cell HL1.out.p 0).trans rfl
          have y1 := (blk_cell HL1.out.p 1).trans rfl
          by_cases hlt2 : i + 1 < l.length
          · obtain ⟨ad', eA, u1, u2, u3⟩ := at_tok (Kd.C_below HT.out HL1.out.below) (i + 1) hlt2
            cases eA
            obtain ⟨tk2, htk2⟩ : ∃ tk2, tk2 = l[i + 1]'hlt2 := ⟨_, rfl⟩
            rw [← htk2] at u1 u2 u3
            have HTK2 := Aside0.mk htk2
            have j3 : (i : Int) + 1 < (l.length : Int) := by omega
            have j4 : (0 : Int) ≤ (i : Int) + 1 := by omega
            clear htk2
            by_cases k2 : tk2.kind = 3
            · have b2 : (tk2.kind != 3) = false := by rw [k2]; rfl
              obtain ⟨D, hD⟩ : ∃ D, defF en (l.drop i) out = D := ⟨_, rfl⟩
              have HJD := Aside0.mk (And.intro (HJ.out.bad HGO.out) (HJ.out.good HGO.out))
              rw [hD] at HJD
              have HJA0 : Aside0 (JA en l D tk (i + 2) out true) := ⟨⟨fun _ => ⟨_, Nat.lt_succ_self _, by rw [← hD, defF_at hlt hkk hlt2 (by rw [← HTK2.out]; exact k2), HTK.out]⟩, fun h => by cases h⟩⟩
              have HII := Aside0.mk (Nat.lt_succ_self i)
              clear k2 hD hkk HJ HGO
              go_wp2
              go_loopw [9, 6, 5] (fun mv iv ov wi => ∃ (i2 n2 : Nat) (B2 : Option Addr) (d2 : Nat) (out2 : List Alt) (more : Bool), i + 2 ≤ i2 ∧ i2 ≤ l.length ∧ mv = .bool more ∧ iv = .int .i64 i2 ∧ ov = .slice B2 n2 d2 ∧ out2.length = n2 ∧ n2 ≤ 60 ∧ Aside0 (JA en l D tk i2 out2 more) ∧ Aside0 (AL w wi (some ad) c l.length en (.slice B2 n2 d2) out2 (.slice none 0 0) []) ∧ Aside0 (wi.heap[wo.heap.size]? = some (.cells #[.int .i64 tk.kind, .string tk.text, .int .i64 tk.pos] 49 (0, 0)))) (fun _ iv _ _ => l.length - (intOf iv).toNat)
              case atStart => exact ⟨i + 2, n, B, d, out, true, Nat.le_refl _, by omega, rfl, by go_num, rfl, hon, hn60, HJA0, HL1, HLF⟩
              case round =>
                clear HJA0 HL1 HLF HL y0 y1 u1 u2 u3 t1 t2 t3 z0 z1
                obtain ⟨i2, n2, B2, d2, out2, more, hi2, hi2l, rfl, rfl, rfl, hon2, hn2, HJA, HL, HLF⟩ := hrel
                cases more with
                | false =>
                  have hst := HJA.out.stop rfl
                  obtain ⟨k, hk, hrs⟩ := HJD.out.2 _ _ hst.1
                  have HJN := Aside0.mk (JR.next hst.2 hk hrs)
                  clear hst hk hrs
                  go_wp2
                  go_roundw
                  case rel => exact ⟨i2, n2, B2, d2, out2, hi2l, rfl, rfl, hon2, hn2, HJN, HL⟩
                  case measure => simp [intOf]; omega
                | true =>
                  obtain ⟨AR, hAR⟩ : ∃ AR, altF en (l.drop i2) [] = AR := ⟨_, rfl⟩
                  have HAR := Aside0.mk hAR
                  have HAR0 := Lib.hid hAR
                  have HNE : Aside0 (some wo.heap.size ≠ (Value.slice none 0 0).ownBlock) := ⟨by simp [Value.ownBlock]⟩
                  clear hAR
                  go_wp2
                  obtain ⟨ws, hws⟩ : ∃ ws : World, ws = wr := ⟨_, rfl⟩
                  subst hws
                  go_loopw [6, 10] (fun iv uv wi => ∃ (i3 m : Nat) (U : Option Addr) (du : Nat) (acc : List Tok), i2 ≤ i3 ∧ i3 ≤ l.length ∧ iv = .int .i64 i3 ∧ uv = .slice U m du ∧ acc.length = m ∧ m ≤ i3 ∧ Aside0 (altF en (l.drop i3) acc = AR) ∧ Aside0 (AL w wi (some ad) c l.length en (.slice B2 n2 d2) out2 (.slice U m du) acc) ∧ Aside0 (wi.heap[wo.heap.size]? = some (.cells #[.int .i64 tk.kind, .string tk.text, .int .i64 tk.pos] 49 (0, 0))) ∧ Aside0 (some wo.heap.size ≠ (Value.slice U m du).ownBlock)) (fun iv _ _ => l.length - (intOf iv).toNat)
                  case atStart => exact ⟨i2, 0, none, 0, [], Nat.le_refl _, hi2l, rfl, rfl, rfl, Nat.zero_le _, HAR, HL, HLF, HNE⟩
                  case round =>
                    clear HAR HL HLF HNE
                    obtain ⟨i3, m, U, du, acc, hi3, hi3l, rfl, rfl, hacc, hmi, HAR, HL, HLF, HNE⟩ := hrel
                    have y0 := (blk_cell HL.out.p 0).trans rfl
                    have y1 := (blk_cell HL.out.p 1).trans rfl
                    by_cases hl3 : i3 < l.length
                    · obtain ⟨ad', eA, u1, u2, u3⟩ := at_tok (Kd.C_below HT.out HL.out.below) i3 hl3
                      cases eA
                      obtain ⟨t3, ht3⟩ : ∃ t3, t3 = l[i3]'hl3 := ⟨_, rfl⟩
                      rw [← ht3] at u1 u2 u3
                      have HT3 := Aside0.mk ht3
                      have j5 : (i3 : Int) < (l.length : Int) := by omega
                      have j6 : (0 : Int) ≤ (i3 : Int) := by omega
                      clear ht3
                      by_cases k12 : t3.kind = 1 ∨ t3.kind = 2
                      · have HN := Aside0.mk ((altF_at (en := en) (acc := acc) hl3 (by rw [← HT3.out]; exact k12)).symm.trans HAR.out)
                        have hd : (t3.kind == 1) = true ∨ ((t3.kind == 1) = false ∧ (t3.kind == 2) = true) := by
                          rcases k12 with k | k <;> rw [k] <;> decide
                        clear k12
                        rcases hd with b1' | ⟨b1', b2'⟩
                        all_goals
                          go_wp2_with (at_builtin; go_loud (refine app_tok (p := t3) (base := w.heap.size) (w0 := w) (ok := fun q => True ∧ some q ≠ (Value.slice B2 n2 d2).ownBlock) rfl rfl HL.out.rt HL.out.below HL.out.below.size (by omega) (fun k hk => ⟨trivial, fresh_ne HL.out.row k hk⟩) rfl (by simp [Act.eval]) ?_; intro v4 w4 A4; obtain ⟨Av4, cv4, hv4⟩ := A4.shape; rw [hacc] at hv4; subst hv4; have HL4 := Aside0.mk (HL.out.tok A4); have HLF4 := Aside0.mk (blk_grown HLF.out A4.grown HNE.out); have HNE4 := Aside0.mk (ne_append HNE.out (blk_lt HLF.out) A4); clear A4))
                          go_roundw
                          case rel => exact ⟨i3 + 1, m + 1, Av4, cv4, _, by omega, by omega, by go_num, rfl, by rw [List.length_append, hacc]; rfl, by omega, by rw [HT3.out]; exact HN, HL4, HLF4, HNE4⟩
                          case measure => simp [intOf]; omega
                      · have b1' : (t3.kind == 1) = false := by rw [beq_eq_false_iff_ne]; omega
                        have b2' : (t3.kind == 2) = false := by rw [beq_eq_false_iff_ne]; omega
                        by_cases k45 : t3.kind = 4 ∨ t3.kind = 5
                        · have HE := Aside0.mk ((altF_at_end (en := en) (acc := acc) hl3 (by rw [← HT3.out]; exact k45)).symm.trans HAR.out)
                          have hd : ((t3.kind != 4) = false ∧ (t3.kind == 4) = true) ∨ ((t3.kind != 4) = true ∧ (t3.kind != 5) = false ∧ (t3.kind == 4) = false) := by
                            rcases k45 with k | k <;> rw [k] <;> decide
                          have h4 : ((l[i3]'hl3).kind == 4) = (t3.kind == 4) := by rw [HT3.out]
                          rw [h4] at HE
                          clear k12 k45 h4
                          have l0 := (blk_cell HLF.out 0).trans rfl
                          have l1 := (blk_cell HLF.out 1).trans rfl
                          have l2 := (blk_cell HLF.out 2).trans rfl
                          by_cases hbg : 60 ≤ n2 ∨ 8 < m
                          · have HD := Aside0.mk (HJD.out.1 _ (JA.large HJA.out (HAR0.out.trans HE.out.symm) (by rw [hon2, hacc]; exact hbg)))
                            have e0 := (blk_cell HL.out.r 0).trans rfl
                            have e1 := (blk_cell HL.out.r 1).trans rfl
                            have e2 := (blk_cell HL.out.r 2).trans rfl
                            have f0 := blk_frozen HL.out.r 0
                            have f1 := blk_frozen HL.out.r 1
                            have f2 := blk_frozen HL.out.r 2
                            have hbd : (60 : Int) ≤ (n2 : Int) ∨ (¬ (60 : Int) ≤ (n2 : Int) ∧ (8 : Int) < (m : Int)) := by omega
                            clear hbg
                            rcases hd with ⟨b4, b5⟩ | ⟨b4, b6, b5⟩ <;> rcases hbd with g1 | ⟨g1, g2⟩
                            all_goals
                              go_wp2
                              refine bodyPost_ret (results_alt1 rfl (blk_set (blk_set (blk_set HL.out.r 0 _) 1 _) 2 _)) rfl ⟨?_, below_set (below_set (below_set HL.out.below (Nat.le_refl _) _ _) (Nat.le_refl _) _ _) (Nat.le_refl _) _ _⟩
                              rw [HD.out]
                              rfl
                          · have HN := Aside0.mk (JA.next HJA.out (HAR0.out.trans HE.out.symm) (by rw [hon2, hacc]; exact hbg))
                            have g1 : ¬ (60 : Int) ≤ (n2 : Int) := by omega
                            have g2 : ¬ (8 : Int) < (m : Int) := by omega
                            have g3 : n2 < 60 := by omega
                            clear hbg
                            rcases hd with ⟨b4, b5⟩ | ⟨b4, b6, b5⟩
                            all_goals
                              rw [b5] at HN
                              go_wp2_with (at_builtin; go_loud (refine app_alt (p := ⟨tk, acc⟩) (u := .slice U m du) (base := w.heap.size) (w0 := w) rfl rfl (Kd.R_mono HL.out.row (fun _ _ => trivial)) (Kd.R_mono HL.out.rt (fun _ h => h.2)) HL.out.below HL.out.below.size (by omega) rfl (by simp [Act.eval]) ?_; intro v4 w4 A4; obtain ⟨Av4, cv4, hv4⟩ := A4.shape; rw [hon2] at hv4; subst hv4; have HL4 : Aside0 (AL w w4 (some ad) c l.length en (.slice Av4 (n2 + 1) cv4) (out2 ++ [⟨tk, acc⟩]) (.slice none 0 0) []) := ⟨⟨A4.below, blk_grown HL.out.r A4.grown (Kd.R_ne HL.out.row HL.out.r (by decide)), blk_grown HL.out.p A4.grown (Kd.R_ne HL.out.row HL.out.p (by decide)), Kd.R_mono A4.row (fun k hk => ⟨trivial, by simp [Value.ownBlock]⟩), Kd.R_nil _ _ _ _ _⟩⟩; have HLF4 := Aside0.mk (blk_grown HLF.out A4.grown (Kd.R_ne HL.out.row HLF.out (by decide))); clear A4))
                              go_roundw
                              case rel => exact ⟨i3 + 1, n2 + 1, Av4, cv4, _, _, by omega, by omega, rfl, by go_num, rfl, by rw [List.length_append, hon2]; rfl, by omega, HN, HL4, HLF4⟩
                              case measure => simp [intOf]; omega
                        · have HD := Aside0.mk (HJD.out.1 _ (JA.bad HJA.out (HAR0.out.trans (HAR.out.symm.trans (altF_at_bad (fun _ => by rw [← HT3.out]; exact ⟨k12, k45⟩))))))
                          have b4 : (t3.kind != 4) = true := by rw [bne_iff_ne]; omega
                          have b6 : (t3.kind != 5) = true := by rw [bne_iff_ne]; omega
                          clear k12 k45
                          go_wp2_with (go_at_call 82; go_loud (refine (of1_c _ c l.length l en (i3) _ (Kd.C_below HT.out HL.out.below) (by omega)).mono ?_; rintro e w9 ⟨rfl, hb9⟩; have H9 := Aside0.mk (AL.below_ HL.out hb9); clear hb9; have e0 := (blk_cell H9.out.r 0).trans rfl; have e1 := (blk_cell H9.out.r 1).trans rfl; have e2 := (blk_cell H9.out.r 2).trans rfl; have f0 := blk_frozen H9.out.r 0; have f1 := blk_frozen H9.out.r 1; have f2 := blk_frozen H9.out.r 2))
                          refine bodyPost_ret (results_alt1 rfl (blk_set (blk_set (blk_set H9.out.r 0 _) 1 _) 2 _)) rfl ⟨?_, below_set (below_set (below_set H9.out.below (Nat.le_refl _) _ _) (Nat.le_refl _) _ _) (Nat.le_refl _) _ _⟩
                          rw [HD.out]
                          rfl
                    · have j5 : ¬ (i3 : Int) < (l.length : Int) := by omega
                      have HD := Aside0.mk (HJD.out.1 _ (JA.bad HJA.out (HAR0.out.trans (HAR.out.symm.trans (altF_at_bad (fun h => absurd h hl3))))))
                      go_wp2_with (go_at_call 82; go_loud (refine (of1_c _ c l.length l en (i3) _ (Kd.C_below HT.out HL.out.below) (by omega)).mono ?_; rintro e w9 ⟨rfl, hb9⟩; have H9 := Aside0.mk (AL.below_ HL.out hb9); clear hb9; have e0 := (blk_cell H9.out.r 0).trans rfl; have e1 := (blk_cell H9.out.r 1).trans rfl; have e2 := (blk_cell H9.out.r 2).trans rfl; have f0 := blk_frozen H9.out.r 0; have f1 := blk_frozen H9.out.r 1; have f2 := blk_frozen H9.out.r 2))
                      refine bodyPost_ret (results_alt1 rfl (blk_set (blk_set (blk_set H9.out.r 0 _) 1 _) 2 _)) rfl ⟨?_, below_set (below_set (below_set H9.out.below (Nat.le_refl _) _ _) (Nat.le_refl _) _ _) (Nat.le_refl _) _ _⟩
                      rw [HD.out]
                      rfl
            · have b2 : (tk2.kind != 3) = true := by rw [bne_iff_ne]; exact k2
              have HD := Aside0.mk (HJ.out.bad HGO.out _ (defF_at_bad2 hlt hkk (fun _ => by rw [← HTK2.out]; exact k2)))
              clear k2 hkk
              go_wp2_with (go_at_call 82; go_loud (refine (of1_c _ c l.length l en (i + 1) _ (Kd.C_below HT.out HL1.out.below) (by omega)).mono ?_; rintro e w9 ⟨rfl, hb9⟩; have H9 := Aside0.mk (AL.below_ HL1.out hb9); clear hb9; have e0 := (blk_cell H9.out.r 0).trans rfl; have e1 := (blk_cell H9.out.r 1).trans rfl; have e2 := (blk_cell H9.out.r 2).trans rfl; have f0 := blk_frozen H9.out.r 0; have f1 := blk_frozen H9.out.r 1; have f2 := blk_frozen H9.out.r 2))
              refine bodyPost_ret (results_alt1 rfl (blk_set (blk_set (blk_set H9.out.r 0 _) 1 _) 2 _)) rfl ⟨?_, below_set (below_set (below_set H9.out.below (Nat.le_refl _) _ _) (Nat.le_refl _) _ _) (Nat.le_refl _) _ _⟩
              rw [HD.out]
              rfl
          · have j3 : ¬ (i : Int) + 1 < (l.length : Int) := by omega
            have HD := Aside0.mk (HJ.out.bad HGO.out _ (defF_at_bad2 hlt hkk (fun h => absurd h hlt2)))
            clear hkk
            go_wp2_with (go_at_call 82; go_loud (refine (of1_c _ c l.length l en (i + 1) _ (Kd.C_below HT.out HL1.out.below) (by omega)).mono ?_; rintro e w9 ⟨rfl, hb9⟩; have H9 := Aside0.mk (AL.below_ HL1.out hb9); clear hb9; have e0 := (blk_cell H9.out.r 0).trans rfl; have e1 := (blk_cell H9.out.r 1).trans rfl; have e2 := (blk_cell H9.out.r 2).trans rfl; have f0 := blk_frozen H9.out.r 0; have f1 := blk_frozen H9.out.r 1; have f2 := blk_frozen H9.out.r 2))
            refine bodyPost_ret (results_alt1 rfl (blk_set (blk_set (blk_set H9.out.r 0 _) 1 _) 2 _)) rfl ⟨?_, below_set (below_set (below_set H9.out.below (Nat.le_refl _) _ _) (Nat.le_refl _) _ _) (Nat.le_refl _) _ _⟩
            rw [HD.out]
            rfl
        · have b1 : (tk.kind != 1) = true := by rw [bne_iff_ne]; exact k1
          have HD := Aside0.mk (HJ.out.bad HGO.out _ (defF_at_bad (fun hi' => by rw [← HTK.out]; exact k1)))
          clear k1
          go_wp2_with (go_at_call 82; go_loud (refine (of1_c _ c l.length l en (i) _ (Kd.C_below HT.out HL.out.below) (by omega)).mono ?_; rintro e w9 ⟨rfl, hb9⟩; have H9 := Aside0.mk (AL.below_ HL.out hb9); clear hb9; have e0 := (blk_cell H9.out.r 0).trans rfl; have e1 := (blk_cell H9.out.r 1).trans rfl; have e2 := (blk_cell H9.out.r 2).trans rfl; have f0 := blk_frozen H9.out.r 0; have f1 := blk_frozen H9.out.r 1; have f2 := blk_frozen H9.out.r 2))
          refine bodyPost_ret (results_alt1 rfl (blk_set (blk_set (blk_set H9.out.r 0 _) 1 _) 2 _)) rfl ⟨?_, below_set (below_set (below_set H9.out.below (Nat.le_refl _) _ _) (Nat.le_refl _) _ _) (Nat.le_refl _) _ _⟩
          rw [HD.out]
          rfl
      · have j2 : ¬ (i : Int) < (l.length : Int) := by omega
        have hn0 : n = 0 := by omega
        have HD := Aside0.mk (HJ.out.bad HGO.out _ (defF_at_bad (fun hi' => absurd hi' hlt)))
        subst hn0
        clear hgo
        go_wp2_with (go_at_call 82; go_loud (refine (of1_c _ c l.length l en (i) _ (Kd.C_below HT.out HL.out.below) (by omega)).mono ?_; rintro e w9 ⟨rfl, hb9⟩; have H9 := Aside0.mk (AL.below_ HL.out hb9); clear hb9; have e0 := (blk_cell H9.out.r 0).trans rfl; have e1 := (blk_cell H9.out.r 1).trans rfl; have e2 := (blk_cell H9.out.r 2).trans rfl; have f0 := blk_frozen H9.out.r 0; have f1 := blk_frozen H9.out.r 1; have f2 := blk_frozen H9.out.r 2))
        refine bodyPost_ret (results_alt1 rfl (blk_set (blk_set (blk_set H9.out.r 0 _) 1 _) 2 _)) rfl ⟨?_, below_set (below_set (below_set H9.out.below (Nat.le_refl _) _ _) (Nat.le_refl _) _ _) (Nat.le_refl _) _ _⟩
        rw [HD.out]
        rfl
    · have j2 : ¬ (i : Int) < (l.length : Int) := by omega
      have hnb : ((n : Int) == 0) = false := by rw [beq_eq_false_iff_ne]; omega
      have HD := Aside0.mk (HJ.out.fin (by omega) (fun e => by rw [e] at hon; simp at hon; omega))
      have e0 := (blk_cell HL.out.r 0).trans rfl
      have e1 := (blk_cell HL.out.r 1).trans rfl
      have e2 := (blk_cell HL.out.r 2).trans rfl
      have f0 := blk_frozen HL.out.r 0
      have f1 := blk_frozen HL.out.r 1
      have f2 := blk_frozen HL.out.r 2
      clear hgo
      go_wp2
      refine bodyPost_ret (results_alt1 rfl (blk_set (blk_set (blk_set HL.out.r 0 _) 1 _) 2 _)) rfl ⟨?_, below_set (below_set (below_set HL.out.below (Nat.le_refl _) _ _) (Nat.le_refl _) _ _) (Nat.le_refl _) _ _⟩
      rw [HD.out]
      have hrow := Kd.R_set (Kd.R_set (Kd.R_set HL.out.row HL.out.r (by decide) 0 (.slice B n d)) (blk_set HL.out.r 0 _) (by decide) 1 (.int .i64 0)) (blk_set (blk_set HL.out.r 0 _) 1 _) (by decide) 2 (.int .i64 0)
      obtain ⟨hn', _, hC'⟩ := Kd.R_reads' hrow
      exact ⟨B, d, by rw [hon], hC'⟩
end Go.Proofs.Ytphmmppmhphgeaa
