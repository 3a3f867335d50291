/- The contract of grammar.Of. -/
import Derived.Test.YtphmmppmhphgeaaC8
set_option linter.unusedVariables false
set_option linter.unusedSimpArgs false
namespace Go.Proofs.Ytphmmppmhphgeaa
open Go.RowKit Go.Proofs.YtphmmppmhphgeaaW.PrintWords

def OfEnd (w : World) : Except (Int × Int) Gram → Ending → World → Prop
  | .error (a, p), e, w' => e = .returned (.tuple #[.agg #[.slice none 0 0, .slice none 0 0, .slice none 0 0], .agg #[.int .i64 a, .int .i64 p]])
  | .ok g, e, w' => ∃ A1 A2 A3 c1 c2 c3, e = .returned (.tuple #[.agg #[.slice A1 g.terms.length c1, .slice A2 g.names.length c2, .slice A3 g.rules.length c3], .agg #[.int .i64 0, .int .i64 0]]) ∧ RepG w' g A1 A2 A3 c1 c2 c3
def ofW (w : World) : World := (w.alloc (.cells #[.slice none 0 0, .slice none 0 0, .slice none 0 0] 25 (0, 0))).alloc (.cells #[.int .i64 0, .int .i64 0] 30 (0, 0))
theorem ofW_p (w : World) : (ofW w).heap[w.heap.size]? = some (.cells #[.slice none 0 0, .slice none 0 0, .slice none 0 0] 25 (0, 0)) := blk_alloc (blk_new w _) _
theorem ofW_q (w : World) : (ofW w).heap[w.heap.size + 1]? = some (.cells #[.int .i64 0, .int .i64 0] 30 (0, 0)) := by
  have h := blk_new (w.alloc (.cells #[.slice none 0 0, .slice none 0 0, .slice none 0 0] 25 (0, 0))) (.cells #[.int .i64 0, .int .i64 0] 30 (0, 0))
  rw [show (w.alloc (.cells #[.slice none 0 0, .slice none 0 0, .slice none 0 0] 25 (0, 0))).heap.size = w.heap.size + 1 by simp] at h
  exact h
theorem ofW_below (w : World) : Below w.heap.size w (ofW w) := ((Below.refl _ _).alloc (Nat.le_refl _) _).alloc (by simp) _
theorem ofW_size (w : World) : (ofW w).heap.size = w.heap.size + 2 := by simp [ofW]
theorem results_of {tmps : Array Value} {W : World} {g g' : Nat} {A1 A2 A3 : Option Addr} {n1 n2 n3 c1 c2 c3 : Nat} {x y : Int} (t2 : tmps.getD 2 undef = .pointer (some ⟨g, 0, none⟩)) (t3 : tmps.getD 3 undef = .pointer (some ⟨g', 0, none⟩))
    (h : W.heap[g]? = some (.cells #[.slice A1 n1 c1, .slice A2 n2 c2, .slice A3 n3 c3] 25 (0, 0))) (h' : W.heap[g']? = some (.cells #[.int .i64 x, .int .i64 y] 30 (0, 0))) :
    (results Try.f17 tmps).run Try.prog W = .ok (.tuple #[.agg #[.slice A1 n1 c1, .slice A2 n2 c2, .slice A3 n3 c3], .agg #[.int .i64 x, .int .i64 y]]) W := by
  have d1 := blk_cell h 0
  have d4 := blk_cell h 1
  have d5 := blk_cell h 2
  have d2 := blk_cell h' 0
  have d3 := blk_cell h' 1
  simp only [List.getElem?_toArray, List.getElem?_cons_zero, List.getElem?_cons_succ] at d1 d2 d3 d4 d5
  simp only [Array.getD_eq_getD_getElem?] at t2 t3
  simp [results, Try.results17, go_sem, d1, d2, d3, d4, d5, t2, t3]
/-- What was thrown is caught: the end of grammar.Of. -/
theorem of_thrown {w W : World} {a p : Int} {v1 v2 v3 : Value} {x y : Int} (hp : W.heap[w.heap.size]? = some (.cells #[v1, v2, v3] 25 (0, 0))) (hq : W.heap[w.heap.size + 1]? = some (.cells #[.int .i64 x, .int .i64 y] 30 (0, 0))) (hb : Below w.heap.size w W) :
    CallsD Try.prog 44 #[.pointer (some ⟨w.heap.size, 0, none⟩), .pointer (some ⟨w.heap.size + 1, 0, none⟩)] (.panicking (faultV a p)) W fun e u' w' =>
      e = .returned (.tuple #[]) ∧ u' = .panicking ({ v := .iface 30 (.agg #[.int .i64 a, .int .i64 p]), recovered := true } :: []) ∧ w'.heap[w.heap.size]? = some (.cells #[.slice none 0 0, .slice none 0 0, .slice none 0 0] 25 (0, 0)) ∧ w'.heap[w.heap.size + 1]? = some (.cells #[.int .i64 a, .int .i64 p] 30 (0, 0)) ∧ Below w.heap.size w w' :=
  ofRec_panicking _ _ _ _ _ _ _ _ _ [] _ w w.heap.size hp hq (by omega) (Nat.le_refl _) (by omega) hb

set_option maxRecDepth 100000 in
set_option maxHeartbeats 8000000 in
theorem of_c (s : ByteArray) (w : World) : Calls Try.prog 17 #[.string s] w fun e w' => OfEnd w (ofF s) e w' ∧ Below w.heap.size w w' := by
  have hmf : ∀ (fn : Fn) (first cap : Array Value) (w : World), (Instr.makeFunc fn first cap).run Try.prog w = .ok (.func fn first cap) w := fun _ _ _ _ => rfl
  have HP := Aside0.mk (ofW_p w)
  have HQ := Aside0.mk (ofW_q w)
  have HB := Aside0.mk (ofW_below w)
  have HZ := Aside0.mk (ofW_size w)
  have HX := Aside0.mk (lex_c s (ofW w))
  have hne : w.heap.size ≠ w.heap.size + 1 := by omega
  obtain ⟨RES, hRES⟩ : ∃ r, ofF s = r := ⟨_, rfl⟩
  rw [hRES]
  have HRES := Aside0.mk hRES
  clear hRES
  cases hlex : lexE s with
  | error er =>
    obtain ⟨a, p⟩ := er
    have ha := lexE_err hlex
    have hR : RES = .error (a, p) := by rw [← HRES.out, ofF, hlex]
    have HL := Lib.hid hlex
    have HR := Lib.hid hR
    have HA := Aside0.mk ha
    clear hlex hR ha
    go_enter_defers Try.func17, Try.ntmps17
    go_wp2_with (first | (go_at_call 26; refine HX.out.mono ?_; rw [HL.out]; rintro e w1 ⟨rfl, hb1⟩; have HP1 := Aside0.mk (blk_below HP.out hb1); have HQ1 := Aside0.mk (blk_below HQ.out hb1); have HB1 := Aside0.mk (below_then HB.out HB.out.size hb1); clear hb1; have c1 := blk_cell HQ1.out 0; have c2 := blk_cell HQ1.out 1; have c3 := blk_frozen HQ1.out 0; have c4 := blk_frozen HQ1.out 1; simp only [List.getElem?_toArray, List.getElem?_cons_zero, List.getElem?_cons_succ] at c1 c2) | (go_at_call 45; refine (check_bad _ _ HA.out _).mono ?_; rintro e w2 ⟨rfl, hb2⟩))
    have hP := blk_below (blk_far (blk_far HP1.out hne _) hne _) hb2
    have hQ := blk_below (blk_set (blk_set HQ1.out 0 _) 1 _) hb2
    have hB0 := below_set (below_set HB1.out (show w.heap.size ≤ w.heap.size + 1 by omega) 0 (.int .i64 a)) (show w.heap.size ≤ w.heap.size + 1 by omega) 1 (.int .i64 p)
    have hB := below_then hB0 hB0.size hb2
    refine leaves_cons (f := 44) (args := #[.pointer (some ⟨w.heap.size, 0, none⟩), .pointer (some ⟨w.heap.size + 1, 0, none⟩)]) (by simp) (by simp [go_sem]) ?_
    refine (of_thrown hP hQ hB).mono ?_
    rintro e u' w'' ⟨rfl, rfl, hP2, hQ2, hB2⟩
    refine ⟨_, results_of rfl rfl hP2 hQ2, ?_, hB2⟩
    rw [HR.out]
    rfl
  | ok l =>
    have HLL := Aside0.mk (lexE_len hlex)
    cases hread : readF s.size l with
    | error er =>
      obtain ⟨a, p⟩ := er
      have ha := readF_err hread
      have hR : RES = .error (a, p) := by rw [← HRES.out, ofF, hlex]; simp only [hread]
      have HL := Lib.hid hlex
      have HR := Lib.hid hR
      have HA := Aside0.mk ha
      have HRD := Lib.hid hread
      clear hlex hR ha hread
      go_enter_defers Try.func17, Try.ntmps17
      go_wp2_with (first | (go_at_call 26; refine HX.out.mono ?_; rw [HL.out]; rintro e w1 ⟨⟨v, rfl, hr1⟩, hb1⟩; obtain ⟨Al, cl, rfl⟩ := Kd.R_slice hr1; have HP1 := Aside0.mk (blk_below HP.out hb1); have HQ1 := Aside0.mk (blk_below HQ.out hb1); have HB1 := Aside0.mk (below_then HB.out HB.out.size hb1); have HR1 := Aside0.mk hr1; clear hb1 hr1; have c1 := blk_cell HQ1.out 0; have c2 := blk_cell HQ1.out 1; have c3 := blk_frozen HQ1.out 0; have c4 := blk_frozen HQ1.out 1; simp only [List.getElem?_toArray, List.getElem?_cons_zero, List.getElem?_cons_succ] at c1 c2) | (go_at_call 45; have hq3 := HQ3.out; refine (check_bad _ _ HA.out _).mono ?_; rintro e w4 ⟨rfl, hb4⟩) | (go_at_call 45; refine (check_ok _ _).mono ?_; rintro e w2 ⟨rfl, hb2⟩; have HP2 := Aside0.mk (blk_below (blk_far (blk_far HP1.out hne _) hne _) hb2); have HQ2 : Aside0 (w2.heap[w.heap.size + 1]? = some (.cells #[.int .i64 0, .int .i64 0] 30 (0, 0))) := ⟨blk_below (blk_set (blk_set HQ1.out 0 _) 1 _) hb2⟩; have hB0 := below_set (below_set HB1.out (show w.heap.size ≤ w.heap.size + 1 by omega) 0 (.int .i64 0)) (show w.heap.size ≤ w.heap.size + 1 by omega) 1 (.int .i64 0); have HB2 := Aside0.mk (below_then hB0 hB0.size hb2); have HR2 := Aside0.mk (Kd.R_below (Kd.R_set (Kd.R_set HR1.out HQ1.out (by decide) 0 _) (blk_set HQ1.out 0 _) (by decide) 1 _) hb2); clear hb2 hB0 c1 c2 c3 c4) | (go_at_call 46; go_loud (refine (alts_c _ _ _ l _ (by have := HLL.out; omega) (Kd.R_reads' HR2.out).2.1 (Kd.R_reads' HR2.out).2.2).mono ?_; rw [HRD.out]; rintro e w3 ⟨rfl, hb3⟩; have HP3 := Aside0.mk (blk_below HP2.out hb3); have HQ3 := Aside0.mk (blk_below HQ2.out hb3); have HB3 := Aside0.mk (below_then HB2.out HB2.out.size hb3); clear hb3; have c1 := blk_cell HQ3.out 0; have c2 := blk_cell HQ3.out 1; have c3 := blk_frozen HQ3.out 0; have c4 := blk_frozen HQ3.out 1; simp only [List.getElem?_toArray, List.getElem?_cons_zero, List.getElem?_cons_succ] at c1 c2)))
      have hP := blk_below (blk_far (blk_far HP3.out hne _) hne _) hb4
      have hQ := blk_below (blk_set (blk_set HQ3.out 0 _) 1 _) hb4
      have hB0 := below_set (below_set HB3.out (show w.heap.size ≤ w.heap.size + 1 by omega) 0 (.int .i64 a)) (show w.heap.size ≤ w.heap.size + 1 by omega) 1 (.int .i64 p)
      have hB := below_then hB0 hB0.size hb4
      refine leaves_cons (f := 44) (args := #[.pointer (some ⟨w.heap.size, 0, none⟩), .pointer (some ⟨w.heap.size + 1, 0, none⟩)]) (by simp) (by simp [go_sem]) ?_
      refine (of_thrown hP hQ hB).mono ?_
      rintro e u' w'' ⟨rfl, rfl, hP2, hQ2, hB2⟩
      refine ⟨_, results_of rfl rfl hP2 hQ2, ?_, hB2⟩
      rw [HR.out]
      rfl
    | ok alts =>
      have HSH := Aside0.mk (readF_short hread)
      have hR : RES = grammF alts := by rw [← HRES.out, ofF, hlex]; simp only [hread]
      have HL := Lib.hid hlex
      have HR := Lib.hid hR
      have HRD := Lib.hid hread
      clear hlex hR hread
      go_enter_defers Try.func17, Try.ntmps17
      go_wp2_with (first | (go_at_call 26; refine HX.out.mono ?_; rw [HL.out]; rintro e w1 ⟨⟨v, rfl, hr1⟩, hb1⟩; obtain ⟨Al, cl, rfl⟩ := Kd.R_slice hr1; have HP1 := Aside0.mk (blk_below HP.out hb1); have HQ1 := Aside0.mk (blk_below HQ.out hb1); have HB1 := Aside0.mk (below_then HB.out HB.out.size hb1); have HR1 := Aside0.mk hr1; clear hb1 hr1; have c1 := blk_cell HQ1.out 0; have c2 := blk_cell HQ1.out 1; have c3 := blk_frozen HQ1.out 0; have c4 := blk_frozen HQ1.out 1; simp only [List.getElem?_toArray, List.getElem?_cons_zero, List.getElem?_cons_succ] at c1 c2) | (go_at_call 45; have hq3 := HQ3.out; refine (check_ok _ _).mono ?_; rintro e w4 ⟨rfl, hb4⟩; have HP4 := Aside0.mk (blk_below (blk_far (blk_far HP3.out hne _) hne _) hb4); have HQ4 : Aside0 (w4.heap[w.heap.size + 1]? = some (.cells #[.int .i64 0, .int .i64 0] 30 (0, 0))) := ⟨blk_below (blk_set (blk_set HQ3.out 0 _) 1 _) hb4⟩; have hB0 := below_set (below_set HB3.out (show w.heap.size ≤ w.heap.size + 1 by omega) 0 (.int .i64 0)) (show w.heap.size ≤ w.heap.size + 1 by omega) 1 (.int .i64 0); have HB4 := Aside0.mk (below_then hB0 hB0.size hb4); have HR4 := Aside0.mk (Kd.R_below (Kd.R_set (Kd.R_set HR3.out HQ3.out (by decide) 0 _) (blk_set HQ3.out 0 _) (by decide) 1 _) hb4); clear hb4 hB0 hq3 c1 c2 c3 c4) | (go_at_call 45; refine (check_ok _ _).mono ?_; rintro e w2 ⟨rfl, hb2⟩; have HP2 := Aside0.mk (blk_below (blk_far (blk_far HP1.out hne _) hne _) hb2); have HQ2 : Aside0 (w2.heap[w.heap.size + 1]? = some (.cells #[.int .i64 0, .int .i64 0] 30 (0, 0))) := ⟨blk_below (blk_set (blk_set HQ1.out 0 _) 1 _) hb2⟩; have hB0 := below_set (below_set HB1.out (show w.heap.size ≤ w.heap.size + 1 by omega) 0 (.int .i64 0)) (show w.heap.size ≤ w.heap.size + 1 by omega) 1 (.int .i64 0); have HB2 := Aside0.mk (below_then hB0 hB0.size hb2); have HR2 := Aside0.mk (Kd.R_below (Kd.R_set (Kd.R_set HR1.out HQ1.out (by decide) 0 _) (blk_set HQ1.out 0 _) (by decide) 1 _) hb2); clear hb2 hB0 c1 c2 c3 c4) | (go_at_call 46; go_loud (refine (alts_c _ _ _ l _ (by have := HLL.out; omega) (Kd.R_reads' HR2.out).2.1 (Kd.R_reads' HR2.out).2.2).mono ?_; rw [HRD.out]; rintro e w3 ⟨⟨va, rfl, hr3⟩, hb3⟩; obtain ⟨Ava, cva, rfl⟩ := Kd.R_slice hr3; have HP3 := Aside0.mk (blk_below HP2.out hb3); have HQ3 := Aside0.mk (blk_below HQ2.out hb3); have HR3 := Aside0.mk (Kd.R_lower hr3 (base' := w.heap.size) HB2.out.size); have HB3 := Aside0.mk (below_then HB2.out HB2.out.size hb3); clear hb3 hr3; have c1 := blk_cell HQ3.out 0; have c2 := blk_cell HQ3.out 1; have c3 := blk_frozen HQ3.out 0; have c4 := blk_frozen HQ3.out 1; simp only [List.getElem?_toArray, List.getElem?_cons_zero, List.getElem?_cons_succ] at c1 c2)))
      have HSt : Aside0 (OfSt w w4 [] [] [] (.slice none 0 0) (.slice none 0 0) (.slice none 0 0) (.slice Ava alts.length cva) alts) := ⟨⟨HP4.out, HQ4.out, Kd.R_nil _ _ _ _ _, Kd.R_nil _ _ _ _ _, Kd.R_nil _ _ _ _ _, HR4.out, HB4.out⟩⟩
      clear HP4 HQ4 HR4 HB4 HP1 HQ1 HR1 HB1 HP2 HQ2 HR2 HB2 HP3 HQ3 HR3 HB3 HL HRD HX HP HQ HB HZ HRES HLL
      obtain ⟨GA, hGA⟩ : ∃ x, gatherF alts [] [] = x := ⟨_, rfl⟩
      have HGA := Aside0.mk hGA
      have hr2 : RES = grammF alts := HR.out
      unfold grammF at hr2
      rw [hGA] at hr2
      have HRR := Lib.hid hr2
      have HGL := gatherF_len alts [] [] HSH.out.1
      rw [hGA] at HGL
      have HGLL := Aside0.mk HGL
      clear hGA hr2 HR HGL
      have hal : alts.length ≤ 60 := HSH.out.2
      go_loopw [32] (fun i wr => ∃ (k : Nat) (ts ns : List ByteArray) (v1 v2 : Value), k ≤ alts.length ∧ i = .int .i64 k ∧ Aside0 (gatherF (alts.drop k) ts ns = GA) ∧ Aside0 (ts.length ≤ 8 * k ∧ ns.length ≤ k) ∧ Aside0 (OfSt w wr ts ns [] v1 v2 (.slice none 0 0) (.slice Ava alts.length cva) alts)) (fun i _ => alts.length - (intOf i).toNat)
      case atStart => exact ⟨0, [], [], .slice none 0 0, .slice none 0 0, Nat.zero_le _, rfl, HGA, ⟨by simp⟩, HSt⟩
      case round =>
        clear HSt HGA
        obtain ⟨k, ts, ns, v1, v2, hk, rfl, HGA, HLN, HSt⟩ := hrel
        obtain ⟨At, ct, rfl⟩ := Kd.R_slice HSt.out.terms
        obtain ⟨An, cn, rfl⟩ := Kd.R_slice HSt.out.names
        by_cases hlt : k < alts.length
        · obtain ⟨ad, Ar, cr, ead, hx1, hx2, hx3, hx4, hRt⟩ := at_altR HSt.out.alts k hlt
          cases ead
          obtain ⟨a, ha⟩ : ∃ a, a = alts[k]'hlt := ⟨_, rfl⟩
          have hd := List.drop_eq_getElem_cons hlt
          have hsh := HSH.out.1 (alts[k]'hlt) (List.getElem_mem _)
          rw [← ha] at hx1 hx2 hx3 hx4 hRt hd hsh
          have hg := HGA.out
          rw [hd, gatherF] at hg
          obtain ⟨⟨lk, lx, lp⟩, right⟩ := a
          dsimp only at hx1 hx2 hx3 hx4 hRt hsh hg
          have HG2 := Aside0.mk hg
          have HSH2 := Aside0.mk hsh
          have HS1 := Aside0.mk (HSt.out.step_ (below_alloc (Below.refl _ _) (.cells #[.int .i64 lk, .string lx, .int .i64 lp, .slice Ar right.length cr] 74 (0, 0))))
          have HT1 := Aside0.mk (Kd.R_alloc hRt (.cells #[.int .i64 lk, .string lx, .int .i64 lp, .slice Ar right.length cr] 74 (0, 0)))
          have J7 := Aside0.mk (blk_new wr (.cells #[.int .i64 lk, .string lx, .int .i64 lp, .slice Ar right.length cr] 74 (0, 0)))
          have hbw : w.heap.size < wr.heap.size := blk_lt HSt.out.cellG
          have c1 := blk_cell HS1.out.cellG 1
          simp only [List.getElem?_toArray, List.getElem?_cons_zero, List.getElem?_cons_succ] at c1
          clear hg hd ha hRt hsh HGA
          go_wp2_with (go_at_call 47; go_loud (refine (added_c w _ w.heap.size _ _ ns lx HS1.out.names HS1.out.below HS1.out.below.size (by have := HLN.out; have := HSH.out; omega) (fresh_ne HS1.out.terms)).mono ?_; rintro e w5 ⟨v', rfl, A5⟩; obtain ⟨Av', cv', rfl⟩ := Kd.R_slice A5.row; have HS2 := Aside0.mk (HS1.out.addName A5); have HT2 := Aside0.mk (HS1.out.toks HS1.out.names HT1.out A5.grown 1 (v' := .slice Av' (addF ns lx).length cv')); have G5 := blk_grown HS1.out.cellG A5.grown (Kd.R_ne HS1.out.names HS1.out.cellG (by decide)); have d1 := blk_cell G5 1; have d2 := blk_frozen G5 1; have J8 := blk_far (p := ⟨w.heap.size, 1, none⟩) (blk_grown J7.out A5.grown (Kd.R_ne HS1.out.names J7.out (by decide))) (by show wr.heap.size ≠ w.heap.size; omega) (.slice Av' (addF ns lx).length cv'); have d3 := blk_cell J8 3; clear A5 G5 J8; simp only [List.getElem?_toArray, List.getElem?_cons_zero, List.getElem?_cons_succ] at d1 d3))
          clear c1 d1 d2 d3 hx1 hx2 hx3 hx4
          have HGQ : Aside0 (∃ q, quotesF right ts = q) := ⟨_, rfl⟩
          obtain ⟨QT, hQT⟩ := HGQ.out
          have hg := HG2.out
          rw [hQT] at hg
          have HG3 := Aside0.mk hg
          have HQT := Aside0.mk hQT
          have HNL := Aside0.mk (show (addF ns lx).length ≤ k + 1 by have h1 := addF_le ns lx; have := HLN.out; omega)
          have HTL := Aside0.mk (show ts.length ≤ 8 * k + 0 by have := HLN.out; omega)
          clear hQT hg HGQ HG2 HLN hbw HS1 HT1 J7 HSt
          have hrl : right.length ≤ 8 := HSH2.out
          obtain ⟨wo, hwo⟩ : ∃ wo : World, wo = wr := ⟨_, rfl⟩
          rw [← hwo] at *
          clear hwo
          go_loopw [46] (fun i wi => ∃ (m : Nat) (ts' : List ByteArray) (v1' : Value), m ≤ right.length ∧ i = .int .i64 m ∧ Aside0 (quotesF (right.drop m) ts' = QT) ∧ Aside0 (ts'.length ≤ 8 * k + m) ∧ Aside0 (OfSt w wi ts' (addF ns lx) [] v1' (.slice Av' (addF ns lx).length cv') (.slice none 0 0) (.slice (some ad) alts.length cva) alts) ∧ Aside0 (kTok.R 49 wi w.heap.size (fun _ => True) (.slice Ar right.length cr) right)) (fun i _ => right.length - (intOf i).toNat)
          case atStart => exact ⟨0, ts, _, Nat.zero_le _, rfl, HQT, HTL, HS2, HT2⟩
          case round =>
            clear HS2 HT2 HQT HTL
            obtain ⟨m, ts', v1', hm, rfl, HQT, HTL, HS2, HT2⟩ := hrel
            obtain ⟨At', ct', rfl⟩ := Kd.R_slice HS2.out.terms
            by_cases hmlt : m < right.length
            · obtain ⟨bd, ebd, hx, hy, hz⟩ := at_tok (Kd.R_reads' HT2.out).2.2 m hmlt
              cases ebd
              obtain ⟨t, ht⟩ : ∃ t, t = right[m]'hmlt := ⟨_, rfl⟩
              have hd := List.drop_eq_getElem_cons hmlt
              rw [← ht] at hx hy hz hd
              have hq := HQT.out
              rw [hd, quotesF] at hq
              obtain ⟨tk, tx, tp⟩ := t
              dsimp only at hx hy hz hq
              by_cases h2 : tk = 2
              · subst h2
                rw [if_pos rfl] at hq
                have HQ2 := Aside0.mk hq
                have HS3 := Aside0.mk (HS2.out.step_ (below_alloc (Below.refl _ _) (.cells #[.int .i64 2, .string tx, .int .i64 tp] 49 (0, 0))))
                have HT3 := Aside0.mk (Kd.R_alloc HT2.out (.cells #[.int .i64 2, .string tx, .int .i64 tp] 49 (0, 0)))
                have c1 := blk_cell HS3.out.cellG 0
                have hbw : w.heap.size < wr.heap.size := blk_lt HS2.out.cellG
                simp only [List.getElem?_toArray, List.getElem?_cons_zero, List.getElem?_cons_succ] at c1
                clear hq hd ht HQT
                go_wp2_with (go_at_call 47; go_loud (refine (added_c w _ w.heap.size _ _ ts' tx HS3.out.terms HS3.out.below HS3.out.below.size (by have := HTL.out; have := HSH.out; omega) (fresh_ne HS3.out.names)).mono ?_; rintro e w6 ⟨v', rfl, A6⟩; obtain ⟨Aw', cw', rfl⟩ := Kd.R_slice A6.row; have HS4 := Aside0.mk (HS3.out.addTerm A6); have HT4 := Aside0.mk (HS3.out.toks HS3.out.terms HT3.out A6.grown 0 (v' := .slice Aw' (addF ts' tx).length cw')); have G6 := blk_grown HS3.out.cellG A6.grown (Kd.R_ne HS3.out.terms HS3.out.cellG (by decide)); have d1 := blk_cell G6 0; have d2 := blk_frozen G6 0; clear A6 G6; simp only [List.getElem?_toArray, List.getElem?_cons_zero, List.getElem?_cons_succ] at d1))
                go_roundw
                case rel => exact ⟨m + 1, addF ts' tx, _, by omega, by go_num, HQ2, ⟨by have h1 := addF_le ts' tx; have := HTL.out; omega⟩, HS4, HT4⟩
                case measure => simp [intOf]; omega
              · rw [if_neg h2] at hq
                have HQ2 := Aside0.mk hq
                have HS3 := Aside0.mk (HS2.out.step_ (below_alloc (Below.refl _ _) (.cells #[.int .i64 tk, .string tx, .int .i64 tp] 49 (0, 0))))
                have HT3 := Aside0.mk (Kd.R_alloc HT2.out (.cells #[.int .i64 tk, .string tx, .int .i64 tp] 49 (0, 0)))
                clear hq hd ht HQT
                go_wp2
                go_roundw
                case rel => exact ⟨m + 1, ts', _, by omega, by go_num, HQ2, ⟨by have := HTL.out; omega⟩, HS3, HT3⟩
                case measure => simp [intOf]; omega
            · have hq := HQT.out
              rw [List.drop_eq_nil_of_le (by omega)] at hq
              have hq2 : ts' = QT := hq
              subst hq2
              go_wp2
              go_roundw
              case rel => exact ⟨k + 1, ts', addF ns lx, _, _, by omega, by go_num, HG3, ⟨by have := HTL.out; have := HNL.out; have := HSH2.out; omega⟩, HS2⟩
              case measure => simp [intOf]; omega
        · have hq := HGA.out
          rw [List.drop_eq_nil_of_le (by omega)] at hq
          have hq2 : GA = (ts, ns) := hq.symm
          subst hq2
          have HF0 : Aside0 (∃ q, rulesF ts ns alts [] = q) := ⟨_, rfl⟩
          obtain ⟨RF, hRF⟩ := HF0.out
          have hr := HRR.out
          dsimp only at hr
          rw [hRF] at hr
          have HRS := Lib.hid hr
          have HRF := Aside0.mk hRF
          have hgl := HGLL.out
          dsimp only [List.length_nil] at hgl
          have htl : ts.length ≤ 480 := by omega
          have hnl : ns.length ≤ 60 := by omega
          clear hr hRF HF0 hq HGA HRR hgl HGLL
          go_wp2
          obtain ⟨wo, hwo⟩ : ∃ wo : World, wo = wr := ⟨_, rfl⟩
          subst hwo
          go_loopw [63] (fun i wr => ∃ (m : Nat) (rs : List Rule) (v3 : Value), m ≤ alts.length ∧ i = .int .i64 m ∧ Aside0 (rulesF ts ns (alts.drop m) rs = RF) ∧ Aside0 (rs.length ≤ m) ∧ Aside0 (OfSt w wr ts ns rs (.slice At ts.length ct) (.slice An ns.length cn) v3 (.slice Ava alts.length cva) alts)) (fun i _ => alts.length - (intOf i).toNat)
          case atStart => exact ⟨0, [], _, Nat.zero_le _, rfl, HRF, ⟨Nat.le_refl _⟩, HSt⟩
          case round =>
            clear HSt HRF
            obtain ⟨m, rs, v3, hm, rfl, HRF, HRL, HSt⟩ := hrel
            obtain ⟨A3, c3, rfl⟩ := Kd.R_slice HSt.out.rules
            by_cases hmlt : m < alts.length
            · obtain ⟨ad, Ar, cr, ead, hx1, hx2, hx3, hx4, hRt⟩ := at_altR HSt.out.alts m hmlt
              cases ead
              obtain ⟨a, ha⟩ : ∃ a, a = alts[m]'hmlt := ⟨_, rfl⟩
              have hd := List.drop_eq_getElem_cons hmlt
              have hsh := HSH.out.1 (alts[m]'hmlt) (List.getElem_mem _)
              rw [← ha] at hx1 hx2 hx3 hx4 hRt hd hsh
              have hg := HRF.out
              rw [hd, rulesF] at hg
              obtain ⟨⟨lk, lx, lp⟩, right⟩ := a
              dsimp only at hx1 hx2 hx3 hx4 hRt hsh
              have HS1 := Aside0.mk (HSt.out.step_ (below_alloc (Below.refl _ _) (.cells #[.int .i64 lk, .string lx, .int .i64 lp, .slice Ar right.length cr] 74 (0, 0))))
              have HT1 := Aside0.mk (Kd.R_alloc hRt (.cells #[.int .i64 lk, .string lx, .int .i64 lp, .slice Ar right.length cr] 74 (0, 0)))
              have HC1 := Aside0.mk (HS1.out.rep.2.2.2)
              have c1 := blk_cell HS1.out.cellG 0
              have c2 := blk_cell HS1.out.cellG 1
              have c3' := blk_cell HS1.out.cellG 2
              simp only [List.getElem?_toArray, List.getElem?_cons_zero, List.getElem?_cons_succ] at c1 c2 c3'
              cases hnum : numF ts ns ⟨⟨lk, lx, lp⟩, right⟩ with
              | error er =>
                obtain ⟨a, p⟩ := er
                rw [hnum] at hg
                have hR : RES = .error (a, p) := by rw [HRS.out, ← hg]
                have HR := Lib.hid hR
                have HN := Lib.hid hnum
                clear hR hnum hg hd ha HRF
                go_wp2_with (go_at_call 48; go_loud (refine (numbered_c _ ts ns At An A3 Ar ct cn rs.length c3 cr ⟨⟨lk, lx, lp⟩, right⟩ HC1.out.terms HC1.out.names (Kd.R_reads' HT1.out).2.2 (by show right.length ≤ 4000; omega) (by omega) (by omega)).mono ?_; rw [HN.out]; rintro e w5 ⟨rfl, hb5⟩))
                have hP := blk_below HS1.out.cellG hb5
                have hQ := blk_below HS1.out.cellF hb5
                have hB := below_then HS1.out.below HS1.out.below.size hb5
                refine leaves_cons (f := 44) (args := #[.pointer (some ⟨w.heap.size, 0, none⟩), .pointer (some ⟨w.heap.size + 1, 0, none⟩)]) (by simp) (by simp [go_sem]) ?_
                refine (of_thrown hP hQ hB).mono ?_
                rintro e u' w'' ⟨rfl, rfl, hP2, hQ2, hB2⟩
                refine ⟨_, results_of rfl rfl hP2 hQ2, ?_, hB2⟩
                rw [HR.out]
                rfl
              | ok x =>
                rw [hnum] at hg
                obtain ⟨xl, xr⟩ := x
                have HG2 := Aside0.mk hg
                have HN := Lib.hid hnum
                clear hnum hg hd ha HRF
                cases hany : rs.any (fun y => decide (y = ⟨xl, xr⟩)) with
                | true =>
                  go_wp2_with (first | (have _hq := HS2.out; go_at_call 49; go_loud (refine (has_c A3 Bx c3 dx rs.length rs ⟨xl, xr⟩ _ HS2.out.rep.2.2.2.rules HV2.out.2.1 HV2.out.2.2).mono ?_; rw [hany]; rintro e w6 ⟨rfl, hb6⟩; have HS3 := Aside0.mk (HS2.out.step_ hb6); clear hb6)) | (go_at_call 48; go_loud (refine (numbered_c _ ts ns At An A3 Ar ct cn rs.length c3 cr ⟨⟨lk, lx, lp⟩, right⟩ HC1.out.terms HC1.out.names (Kd.R_reads' HT1.out).2.2 (by show right.length ≤ 4000; omega) (by omega) (by omega)).mono ?_; rw [HN.out]; rintro e w5 ⟨⟨vx, rfl, hx⟩, hb5⟩; obtain ⟨Bx, dx, rfl⟩ := Kd.R_slice hx; dsimp only at hx; have HS2 := Aside0.mk ((HS1.out.step_ hb5).step_ (below_alloc (Below.refl _ _) (.cells #[.int .i64 xl, .slice Bx xr.length dx] 56 (0, 0)))); have HV2 := Aside0.mk (Kd.R_reads' (Kd.R_alloc hx (.cells #[.int .i64 xl, .slice Bx xr.length dx] 56 (0, 0)))); have d1 := blk_cell HS2.out.cellG 2; clear hb5 hx; simp only [List.getElem?_toArray, List.getElem?_cons_zero, List.getElem?_cons_succ] at d1)))
                  go_roundw
                  case rel => exact ⟨m + 1, rs, _, by omega, by go_num, ⟨by have h := HG2.out; unfold pushF at h; rw [hany, if_pos rfl] at h; exact h⟩, ⟨by have := HRL.out; omega⟩, HS3⟩
                  case measure => simp [intOf]; omega
                | false =>
                  go_wp2_with (first | (have _hq := HS3.out; at_builtin; go_loud (refine app_rule (w0 := w) (base := w.heap.size) (xs := rs) (p := ⟨xl, xr⟩) (ok := fun _ => True) rfl rfl HS3.out.rules (Kd.R_mono (Kd.R_apartR HV3.out HS3.out.rules (by decide)) (fun _ h => h.2)) HS3.out.below HS3.out.below.size (by have := HRL.out; omega) rfl (by simp [Act.eval]) ?_; intro v7 w7 A7; obtain ⟨Av7, cv7, rfl⟩ := A7.shape; have HS4 := Aside0.mk (HS3.out.addRule A7); have G7 := blk_grown HS3.out.cellG A7.grown (Kd.R_ne HS3.out.rules HS3.out.cellG (by decide)); have e1 := blk_cell G7 2; have e2 := blk_frozen G7 2; clear A7 G7; simp only [List.getElem?_toArray, List.getElem?_cons_zero, List.getElem?_cons_succ] at e1)) | (have _hq := HS2.out; go_at_call 49; go_loud (refine (has_c A3 Bx c3 dx rs.length rs ⟨xl, xr⟩ _ HS2.out.rep.2.2.2.rules HV2.out.2.1 HV2.out.2.2).mono ?_; rw [hany]; rintro e w6 ⟨rfl, hb6⟩; have HS3 := Aside0.mk (HS2.out.step_ hb6); have HV3 := Aside0.mk (Kd.R_below HX2.out hb6); have HJ3 := Aside0.mk (blk_below HJ2.out hb6); clear hb6; have f1 := blk_cell HS3.out.cellG 2; have f2 := blk_cell HJ3.out 0; have f3 := blk_cell HJ3.out 1; simp only [List.getElem?_toArray, List.getElem?_cons_zero, List.getElem?_cons_succ] at f1 f2 f3)) | (go_at_call 48; go_loud (refine (numbered_c _ ts ns At An A3 Ar ct cn rs.length c3 cr ⟨⟨lk, lx, lp⟩, right⟩ HC1.out.terms HC1.out.names (Kd.R_reads' HT1.out).2.2 (by show right.length ≤ 4000; omega) (by omega) (by omega)).mono ?_; rw [HN.out]; rintro e w5 ⟨⟨vx, rfl, hx⟩, hb5⟩; obtain ⟨Bx, dx, rfl⟩ := Kd.R_slice hx; dsimp only at hx; have HS2 := Aside0.mk ((HS1.out.step_ hb5).step_ (below_alloc (Below.refl _ _) (.cells #[.int .i64 xl, .slice Bx xr.length dx] 56 (0, 0)))); have HV2 := Aside0.mk (Kd.R_reads' (Kd.R_alloc hx (.cells #[.int .i64 xl, .slice Bx xr.length dx] 56 (0, 0)))); have HX2 := Aside0.mk (Kd.R_lower (Kd.R_alloc hx (.cells #[.int .i64 xl, .slice Bx xr.length dx] 56 (0, 0))) (base' := w.heap.size) HS1.out.below.size); have HJ2 := Aside0.mk (blk_new w5 (.cells #[.int .i64 xl, .slice Bx xr.length dx] 56 (0, 0))); have d1 := blk_cell HS2.out.cellG 2; clear hb5 hx; simp only [List.getElem?_toArray, List.getElem?_cons_zero, List.getElem?_cons_succ] at d1)))
                  go_roundw
                  case rel => exact ⟨m + 1, rs ++ [⟨xl, xr⟩], _, by omega, by go_num, ⟨by have h := HG2.out; unfold pushF at h; rw [hany, if_neg (by simp)] at h; exact h⟩, ⟨by have := HRL.out; simp; omega⟩, HS4⟩
                  case measure => simp [intOf]; omega
            · have hq := HRF.out
              rw [List.drop_eq_nil_of_le (by omega)] at hq
              have hq2 : RF = .ok rs := hq.symm
              subst hq2
              have hr := HRS.out
              dsimp only at hr
              have c1 := blk_cell HSt.out.cellG 0
              have c2 := blk_cell HSt.out.cellG 1
              have c4 := blk_cell HSt.out.cellG 2
              have d1 := blk_cell HSt.out.cellF 0
              have d2 := blk_cell HSt.out.cellF 1
              have f1 := blk_frozen HSt.out.cellG 0
              have f2 := blk_frozen HSt.out.cellG 1
              have f3 := blk_frozen HSt.out.cellG 2
              have f4 := blk_frozen HSt.out.cellF 0
              have f5 := blk_frozen HSt.out.cellF 1
              simp only [List.getElem?_toArray, List.getElem?_cons_zero, List.getElem?_cons_succ] at c1 c2 c4 d1 d2
              have n1 : ¬ w.heap.size = w.heap.size + 1 := by omega
              have n2 : ¬ w.heap.size + 1 = w.heap.size := by omega
              by_cases hbig : 40 < ns.length ∨ 40 < ts.length
              · rw [if_pos hbig] at hr
                have HR := Lib.hid hr
                clear hr
                by_cases hb1 : 40 < ns.length
                · go_wp2_with (go_at_call 45; go_loud (refine (check_bad 14 0 (by decide) _).mono ?_; rintro e w6 ⟨rfl, hb6⟩))
                  have hP := blk_below HSt.out.cellG hb6
                  have hQ := blk_below HSt.out.cellF hb6
                  have hB := below_then HSt.out.below HSt.out.below.size hb6
                  refine leaves_cons (f := 44) (args := #[.pointer (some ⟨w.heap.size, 0, none⟩), .pointer (some ⟨w.heap.size + 1, 0, none⟩)]) (by simp) (by simp [go_sem]) ?_
                  refine (of_thrown hP hQ hB).mono ?_
                  rintro e u' w'' ⟨rfl, rfl, hP2, hQ2, hB2⟩
                  refine ⟨_, results_of rfl rfl hP2 hQ2, ?_, hB2⟩
                  rw [HR.out]
                  rfl
                · have hb2 : 40 < ts.length := by omega
                  go_wp2_with (go_at_call 45; go_loud (refine (check_bad 14 0 (by decide) _).mono ?_; rintro e w6 ⟨rfl, hb6⟩))
                  have hP := blk_below HSt.out.cellG hb6
                  have hQ := blk_below HSt.out.cellF hb6
                  have hB := below_then HSt.out.below HSt.out.below.size hb6
                  refine leaves_cons (f := 44) (args := #[.pointer (some ⟨w.heap.size, 0, none⟩), .pointer (some ⟨w.heap.size + 1, 0, none⟩)]) (by simp) (by simp [go_sem]) ?_
                  refine (of_thrown hP hQ hB).mono ?_
                  rintro e u' w'' ⟨rfl, rfl, hP2, hQ2, hB2⟩
                  refine ⟨_, results_of rfl rfl hP2 hQ2, ?_, hB2⟩
                  rw [HR.out]
                  rfl
              · rw [if_neg hbig] at hr
                have HR := Lib.hid hr
                have hb1 : ¬ 40 < ns.length := by omega
                have hb2 : ¬ 40 < ts.length := by omega
                clear hr hbig
                go_wp2
                refine leaves_cons (f := 44) (args := #[.pointer (some ⟨w.heap.size, 0, none⟩), .pointer (some ⟨w.heap.size + 1, 0, none⟩)]) (by simp) (by simp [go_sem]) ?_
                refine (ofRec_idle _ _ _).mono ?_
                rintro e u' w'' ⟨rfl, rfl, rfl⟩
                have HF := HSt.out.final
                refine ⟨_, results_of rfl rfl HF.cellG HF.cellF, ?_, HF.below⟩
                rw [HR.out]
                exact ⟨At, An, A3, ct, cn, c3, rfl, HF.rep.2.2.2⟩
end Go.Proofs.Ytphmmppmhphgeaa
