/- Texts C9, E2, U1, X1, U2, U3, X2, U4, U5, U6, E1, E4, E5, U7, Y1, joined: contracts of functions of the program, and plain laws; each says what it proves. -/
import Derived.Test.YtphmmppmhphgeaaJR5c
import Derived.Test.YtphmmppmhphgeaaJR5a
import Derived.Conc.LoneCalls
import Derived.Conc.LoneSelect
import Derived.Conc.SmallLaws
import Derived.Test.YtphmmppmhphgeaaWLast
import Derived.Deep.Cut
/- The contract of grammar.Of. -/
set_option linter.unusedVariables false
set_option linter.unusedSimpArgs false
namespace Go.Proofs.Ytphmmppmhphgeaa
open Go.RowKit Go.Proofs.YtphmmppmhphgeaaW.PrintWords

def OfEnd (w : World) : Except (Int × Int) Gram → Ending → World → Prop
  | .error (a, p), e, w' => e = .returned (.tuple #[.agg #[.slice none 0 0, .slice none 0 0, .slice none 0 0], .agg #[.int .i64 a, .int .i64 p]])
  | .ok g, e, w' => ∃ A1 A2 A3 c1 c2 c3, e = .returned (.tuple #[.agg #[.slice A1 g.terms.length c1, .slice A2 g.names.length c2, .slice A3 g.rules.length c3], .agg #[.int .i64 0, .int .i64 0]]) ∧ RepG w' g A1 A2 A3 c1 c2 c3
def ofW (w : World) : World := (w.alloc (.cells #[.slice none 0 0, .slice none 0 0, .slice none 0 0] 25 (0, 0))).alloc (.cells #[.int .i64 0, .int .i64 0] 30 (0, 0))
theorem ofW_p (w : World) : (ofW w).heap[w.heap.size]? = some (.cells #[.slice none 0 0, .slice none 0 0, .slice none 0 0] 25 (0, 0)) := blk_alloc (blk_new w _) _
theorem ofW_q (w : World) : (ofW w).heap[w.heap.size + 1]? = some (.cells #[.int .i64 0, .int .i64 0] 30 (0, 0)) := by
  have h := blk_new (w.alloc (.cells #[.slice none 0 0, .slice none 0 0, .slice none 0 0] 25 (0, 0))) (.cells #[.int .i64 0, .int .i64 0] 30 (0, 0))
  rw [show (w.alloc (.cells #[.slice none 0 0, .slice none 0 0, .slice none 0 0] 25 (0, 0))).heap.size = w.heap.size + 1 by simp] at h
  exact h
theorem ofW_below (w : World) : Below w.heap.size w (ofW w) := ((Below.refl _ _).alloc (Nat.le_refl _) _).alloc (by simp) _
theorem ofW_size (w : World) : (ofW w).heap.size = w.heap.size + 2 := by simp [ofW]
theorem results_of {tmps : Array Value} {W : World} {g g' : Nat} {A1 A2 A3 : Option Addr} {n1 n2 n3 c1 c2 c3 : Nat} {x y : Int} (t2 : tmps.getD 2 undef = .pointer (some ⟨g, 0, none⟩)) (t3 : tmps.getD 3 undef = .pointer (some ⟨g', 0, none⟩))
    (h : W.heap[g]? = some (.cells #[.slice A1 n1 c1, .slice A2 n2 c2, .slice A3 n3 c3] 25 (0, 0))) (h' : W.heap[g']? = some (.cells #[.int .i64 x, .int .i64 y] 30 (0, 0))) :
    (results Try.f17 tmps).run Try.prog W = .ok (.tuple #[.agg #[.slice A1 n1 c1, .slice A2 n2 c2, .slice A3 n3 c3], .agg #[.int .i64 x, .int .i64 y]]) W := by
  have d1 := blk_cell h 0
  have d4 := blk_cell h 1
  have d5 := blk_cell h 2
  have d2 := blk_cell h' 0
  have d3 := blk_cell h' 1
  simp only [List.getElem?_toArray, List.getElem?_cons_zero, List.getElem?_cons_succ] at d1 d2 d3 d4 d5
  simp only [Array.getD_eq_getD_getElem?] at t2 t3
  simp [results, Try.results17, go_sem, d1, d2, d3, d4, d5, t2, t3]
/-- What was thrown is caught: the end of grammar.Of. -/
theorem of_thrown {w W : World} {a p : Int} {v1 v2 v3 : Value} {x y : Int} (hp : W.heap[w.heap.size]? = some (.cells #[v1, v2, v3] 25 (0, 0))) (hq : W.heap[w.heap.size + 1]? = some (.cells #[.int .i64 x, .int .i64 y] 30 (0, 0))) (hb : Below w.heap.size w W) :
    CallsD Try.prog 44 #[.pointer (some ⟨w.heap.size, 0, none⟩), .pointer (some ⟨w.heap.size + 1, 0, none⟩)] (.panicking (faultV a p)) W fun e u' w' =>
      e = .returned (.tuple #[]) ∧ u' = .panicking ({ v := .iface 30 (.agg #[.int .i64 a, .int .i64 p]), recovered := true } :: []) ∧ w'.heap[w.heap.size]? = some (.cells #[.slice none 0 0, .slice none 0 0, .slice none 0 0] 25 (0, 0)) ∧ w'.heap[w.heap.size + 1]? = some (.cells #[.int .i64 a, .int .i64 p] 30 (0, 0)) ∧ Below w.heap.size w w' :=
  ofRec_panicking _ _ _ _ _ _ _ _ _ [] _ w w.heap.size hp hq (by omega) (Nat.le_refl _) (by omega) hb

set_option maxRecDepth 100000 in
set_option maxHeartbeats 8000000 in
theorem of_c (s : ByteArray) (w : World) : Calls Try.prog 17 #[.string s] w fun e w' => OfEnd w (ofF s) e w' ∧ Below w.heap.size w w' := by
  have hmf : ∀ (fn : Fn) (first cap : Array Value) (w : World), (Instr.makeFunc fn first cap).run Try.prog w = .ok (.func fn first cap) w := fun _ _ _ _ => rfl
  have HP := Aside0.mk (ofW_p w)
  have HQ := Aside0.mk (ofW_q w)
  have HB := Aside0.mk (ofW_below w)
  have HZ := Aside0.mk (ofW_size w)
  have HX := Aside0.mk (lex_c s (ofW w))
  have hne : w.heap.size ≠ w.heap.size + 1 := by omega
  obtain ⟨RES, hRES⟩ : ∃ r, ofF s = r := ⟨_, rfl⟩
  rw [hRES]
  have HRES := Aside0.mk hRES
  clear hRES
  cases hlex : lexE s with
  | error er =>
    obtain ⟨a, p⟩ := er
    have ha := lexE_err hlex
    have hR : RES = .error (a, p) := by rw [← HRES.out, ofF, hlex]
    have HL := Lib.hid hlex
    have HR := Lib.hid hR
    have HA := Aside0.mk ha
    clear hlex hR ha
    go_enter_defers Try.func17, Try.ntmps17
    go_wp2_with (first | (go_at_call 26; refine HX.out.mono ?_; rw [HL.out]; rintro e w1 ⟨rfl, hb1⟩; have HP1 := Aside0.mk (blk_below HP.out hb1); have HQ1 := Aside0.mk (blk_below HQ.out hb1); have HB1 := Aside0.mk (below_then HB.out HB.out.size hb1); clear hb1; have c1 := blk_cell HQ1.out 0; have c2 := blk_cell HQ1.out 1; have c3 := blk_frozen HQ1.out 0; have c4 := blk_frozen HQ1.out 1; simp only [List.getElem?_toArray, List.getElem?_cons_zero, List.getElem?_cons_succ] at c1 c2) | (go_at_call 45; refine (check_bad _ _ HA.out _).mono ?_; rintro e w2 ⟨rfl, hb2⟩))
    have hP := blk_below (blk_far (blk_far HP1.out hne _) hne _) hb2
    have hQ := blk_below (blk_set (blk_set HQ1.out 0 _) 1 _) hb2
    have hB0 := below_set (below_set HB1.out (show w.heap.size ≤ w.heap.size + 1 by omega) 0 (.int .i64 a)) (show w.heap.size ≤ w.heap.size + 1 by omega) 1 (.int .i64 p)
    have hB := below_then hB0 hB0.size hb2
    refine leaves_cons (f := 44) (args := #[.pointer (some ⟨w.heap.size, 0, none⟩), .pointer (some ⟨w.heap.size + 1, 0, none⟩)]) (by simp) (by simp [go_sem]) ?_
    refine (of_thrown hP hQ hB).mono ?_
    rintro e u' w'' ⟨rfl, rfl, hP2, hQ2, hB2⟩
    refine ⟨_, results_of rfl rfl hP2 hQ2, ?_, hB2⟩
    rw [HR.out]
    rfl
  | ok l =>
    have HLL := Aside0.mk (lexE_len hlex)
    cases hread : readF s.size l with
    | error er =>
      obtain ⟨a, p⟩ := er
      have ha := readF_err hread
      have hR : RES = .error (a, p) := by rw [← HRES.out, ofF, hlex]; simp only [hread]
      have HL := Lib.hid hlex
      have HR := Lib.hid hR
      have HA := Aside0.mk ha
      have HRD := Lib.hid hread
      clear hlex hR ha hread
      go_enter_defers Try.func17, Try.ntmps17
      go_wp2_with (first | (go_at_call 26; refine HX.out.mono ?_; rw [HL.out]; rintro e w1 ⟨⟨v, rfl, hr1⟩, hb1⟩; obtain ⟨Al, cl, rfl⟩ := Kd.R_slice hr1; have HP1 := Aside0.mk (blk_below HP.out hb1); have HQ1 := Aside0.mk (blk_below HQ.out hb1); have HB1 := Aside0.mk (below_then HB.out HB.out.size hb1); have HR1 := Aside0.mk hr1; clear hb1 hr1; have c1 := blk_cell HQ1.out 0; have c2 := blk_cell HQ1.out 1; have c3 := blk_frozen HQ1.out 0; have c4 := blk_frozen HQ1.out 1; simp only [List.getElem?_toArray, List.getElem?_cons_zero, List.getElem?_cons_succ] at c1 c2) | (go_at_call 45; have hq3 := HQ3.out; refine (check_bad _ _ HA.out _).mono ?_; rintro e w4 ⟨rfl, hb4⟩) | (go_at_call 45; refine (check_ok _ _).mono ?_; rintro e w2 ⟨rfl, hb2⟩; have HP2 := Aside0.mk (blk_below (blk_far (blk_far HP1.out hne _) hne _) hb2); have HQ2 : Aside0 (w2.heap[w.heap.size + 1]? = some (.cells #[.int .i64 0, .int .i64 0] 30 (0, 0))) := ⟨blk_below (blk_set (blk_set HQ1.out 0 _) 1 _) hb2⟩; have hB0 := below_set (below_set HB1.out (show w.heap.size ≤ w.heap.size + 1 by omega) 0 (.int .i64 0)) (show w.heap.size ≤ w.heap.size + 1 by omega) 1 (.int .i64 0); have HB2 := Aside0.mk (below_then hB0 hB0.size hb2); have HR2 := Aside0.mk (Kd.R_below (Kd.R_set (Kd.R_set HR1.out HQ1.out (by decide) 0 _) (blk_set HQ1.out 0 _) (by decide) 1 _) hb2); clear hb2 hB0 c1 c2 c3 c4) | (go_at_call 46; go_loud (refine (alts_c _ _ _ l _ (by have := HLL.out; omega) (Kd.R_reads' HR2.out).2.1 (Kd.R_reads' HR2.out).2.2).mono ?_; rw [HRD.out]; rintro e w3 ⟨rfl, hb3⟩; have HP3 := Aside0.mk (blk_below HP2.out hb3); have HQ3 := Aside0.mk (blk_below HQ2.out hb3); have HB3 := Aside0.mk (below_then HB2.out HB2.out.size hb3); clear hb3; have c1 := blk_cell HQ3.out 0; have c2 := blk_cell HQ3.out 1; have c3 := blk_frozen HQ3.out 0; have c4 := blk_frozen HQ3.out 1; simp only [List.getElem?_toArray, List.getElem?_cons_zero, List.getElem?_cons_succ] at c1 c2)))
      have hP := blk_below (blk_far (blk_far HP3.out hne _) hne _) hb4
      have hQ := blk_below (blk_set (blk_set HQ3.out 0 _) 1 _) hb4
      have hB0 := below_set (below_set HB3.out (show w.heap.size ≤ w.heap.size + 1 by omega) 0 (.int .i64 a)) (show w.heap.size ≤ w.heap.size + 1 by omega) 1 (.int .i64 p)
      have hB := below_then hB0 hB0.size hb4
      refine leaves_cons (f := 44) (args := #[.pointer (some ⟨w.heap.size, 0, none⟩), .pointer (some ⟨w.heap.size + 1, 0, none⟩)]) (by simp) (by simp [go_sem]) ?_
      refine (of_thrown hP hQ hB).mono ?_
      rintro e u' w'' ⟨rfl, rfl, hP2, hQ2, hB2⟩
      refine ⟨_, results_of rfl rfl hP2 hQ2, ?_, hB2⟩
      rw [HR.out]
      rfl
    | ok alts =>
      have HSH := Aside0.mk (readF_short hread)
      have hR : RES = grammF alts := by rw [← HRES.out, ofF, hlex]; simp only [hread]
      have HL := Lib.hid hlex
      have HR := Lib.hid hR
      have HRD := Lib.hid hread
      clear hlex hR hread
      go_enter_defers Try.func17, Try.ntmps17
      go_wp2_with (first | (go_at_call 26; refine HX.out.mono ?_; rw [HL.out]; rintro e w1 ⟨⟨v, rfl, hr1⟩, hb1⟩; obtain ⟨Al, cl, rfl⟩ := Kd.R_slice hr1; have HP1 := Aside0.mk (blk_below HP.out hb1); have HQ1 := Aside0.mk (blk_below HQ.out hb1); have HB1 := Aside0.mk (below_then HB.out HB.out.size hb1); have HR1 := Aside0.mk hr1; clear hb1 hr1; have c1 := blk_cell HQ1.out 0; have c2 := blk_cell HQ1.out 1; have c3 := blk_frozen HQ1.out 0; have c4 := blk_frozen HQ1.out 1; simp only [List.getElem?_toArray, List.getElem?_cons_zero, List.getElem?_cons_succ] at c1 c2) | (go_at_call 45; have hq3 := HQ3.out; refine (check_ok _ _).mono ?_; rintro e w4 ⟨rfl, hb4⟩; have HP4 := Aside0.mk (blk_below (blk_far (blk_far HP3.out hne _) hne _) hb4); have HQ4 : Aside0 (w4.heap[w.heap.size + 1]? = some (.cells #[.int .i64 0, .int .i64 0] 30 (0, 0))) := ⟨blk_below (blk_set (blk_set HQ3.out 0 _) 1 _) hb4⟩; have hB0 := below_set (below_set HB3.out (show w.heap.size ≤ w.heap.size + 1 by omega) 0 (.int .i64 0)) (show w.heap.size ≤ w.heap.size + 1 by omega) 1 (.int .i64 0); have HB4 := Aside0.mk (below_then hB0 hB0.size hb4); have HR4 := Aside0.mk (Kd.R_below (Kd.R_set (Kd.R_set HR3.out HQ3.out (by decide) 0 _) (blk_set HQ3.out 0 _) (by decide) 1 _) hb4); clear hb4 hB0 hq3 c1 c2 c3 c4) | (go_at_call 45; refine (check_ok _ _).mono ?_; rintro e w2 ⟨rfl, hb2⟩; have HP2 := Aside0.mk (blk_below (blk_far (blk_far HP1.out hne _) hne _) hb2); have HQ2 : Aside0 (w2.heap[w.heap.size + 1]? = some (.cells #[.int .i64 0, .int .i64 0] 30 (0, 0))) := ⟨blk_below (blk_set (blk_set HQ1.out 0 _) 1 _) hb2⟩; have hB0 := below_set (below_set HB1.out (show w.heap.size ≤ w.heap.size + 1 by omega) 0 (.int .i64 0)) (show w.heap.size ≤ w.heap.size + 1 by omega) 1 (.int .i64 0); have HB2 := Aside0.mk (below_then hB0 hB0.size hb2); have HR2 := Aside0.mk (Kd.R_below (Kd.R_set (Kd.R_set HR1.out HQ1.out (by decide) 0 _) (blk_set HQ1.out 0 _) (by decide) 1 _) hb2); clear hb2 hB0 c1 c2 c3 c4) | (go_at_call 46; go_loud (refine (alts_c _ _ _ l _ (by have := HLL.out; omega) (Kd.R_reads' HR2.out).2.1 (Kd.R_reads' HR2.out).2.2).mono ?_; rw [HRD.out]; rintro e w3 ⟨⟨va, rfl, hr3⟩, hb3⟩; obtain ⟨Ava, cva, rfl⟩ := Kd.R_slice hr3; have HP3 := Aside0.mk (blk_below HP2.out hb3); have HQ3 := Aside0.mk (blk_below HQ2.out hb3); have HR3 := Aside0.mk (Kd.R_lower hr3 (base' := w.heap.size) HB2.out.size); have HB3 := Aside0.mk (below_then HB2.out HB2.out.size hb3); clear hb3 hr3; have c1 := blk_cell HQ3.out 0; have c2 := blk_cell HQ3.out 1; have c3 := blk_frozen HQ3.out 0; have c4 := blk_frozen HQ3.out 1; simp only [List.getElem?_toArray, List.getElem?_cons_zero, List.getElem?_cons_succ] at c1 c2)))
      have HSt : Aside0 (OfSt w w4 [] [] [] (.slice none 0 0) (.slice none 0 0) (.slice none 0 0) (.slice Ava alts.length cva) alts) := ⟨⟨HP4.out, HQ4.out, Kd.R_nil _ _ _ _ _, Kd.R_nil _ _ _ _ _, Kd.R_nil _ _ _ _ _, HR4.out, HB4.out⟩⟩
      clear HP4 HQ4 HR4 HB4 HP1 HQ1 HR1 HB1 HP2 HQ2 HR2 HB2 HP3 HQ3 HR3 HB3 HL HRD HX HP HQ HB HZ HRES HLL
      obtain ⟨GA, hGA⟩ : ∃ x, gatherF alts [] [] = x := ⟨_, rfl⟩
      have HGA := Aside0.mk hGA
      have hr2 : RES = grammF alts := HR.out
      unfold grammF at hr2
      rw [hGA] at hr2
      have HRR := Lib.hid hr2
      have HGL := gatherF_len alts [] [] HSH.out.1
      rw [hGA] at HGL
      have HGLL := Aside0.mk HGL
      clear hGA hr2 HR HGL
      have hal : alts.length ≤ 60 := HSH.out.2
      go_loopw [32] (fun i wr => ∃ (k : Nat) (ts ns : List ByteArray) (v1 v2 : Value), k ≤ alts.length ∧ i = .int .i64 k ∧ Aside0 (gatherF (alts.drop k) ts ns = GA) ∧ Aside0 (ts.length ≤ 8 * k ∧ ns.length ≤ k) ∧ Aside0 (OfSt w wr ts ns [] v1 v2 (.slice none 0 0) (.slice Ava alts.length cva) alts)) (fun i _ => alts.length - (intOf i).toNat)
      case atStart => exact ⟨0, [], [], .slice none 0 0, .slice none 0 0, Nat.zero_le _, rfl, HGA, ⟨by simp⟩, HSt⟩
      case round =>
        clear HSt HGA
        obtain ⟨k, ts, ns, v1, v2, hk, rfl, HGA, HLN, HSt⟩ := hrel
        obtain ⟨At, ct, rfl⟩ := Kd.R_slice HSt.out.terms
        obtain ⟨An, cn, rfl⟩ := Kd.R_slice HSt.out.names
        by_cases hlt : k < alts.length
        · obtain ⟨ad, Ar, cr, ead, hx1, hx2, hx3, hx4, hRt⟩ := at_altR HSt.out.alts k hlt
          cases ead
          obtain ⟨a, ha⟩ : ∃ a, a = alts[k]'hlt := ⟨_, rfl⟩
          have hd := List.drop_eq_getElem_cons hlt
          have hsh := HSH.out.1 (alts[k]'hlt) (List.getElem_mem _)
          rw [← ha] at hx1 hx2 hx3 hx4 hRt hd hsh
          have hg := HGA.out
          rw [hd, gatherF] at hg
          obtain ⟨⟨lk, lx, lp⟩, right⟩ := a
          dsimp only at hx1 hx2 hx3 hx4 hRt hsh hg
          have HG2 := Aside0.mk hg
          have HSH2 := Aside0.mk hsh
          have HS1 := Aside0.mk (HSt.out.step_ (below_alloc (Below.refl _ _) (.cells #[.int .i64 lk, .string lx, .int .i64 lp, .slice Ar right.length cr] 74 (0, 0))))
          have HT1 := Aside0.mk (Kd.R_alloc hRt (.cells #[.int .i64 lk, .string lx, .int .i64 lp, .slice Ar right.length cr] 74 (0, 0)))
          have J7 := Aside0.mk (blk_new wr (.cells #[.int .i64 lk, .string lx, .int .i64 lp, .slice Ar right.length cr] 74 (0, 0)))
          have hbw : w.heap.size < wr.heap.size := blk_lt HSt.out.cellG
          have c1 := blk_cell HS1.out.cellG 1
          simp only [List.getElem?_toArray, List.getElem?_cons_zero, List.getElem?_cons_succ] at c1
          clear hg hd ha hRt hsh HGA
          go_wp2_with (go_at_call 47; go_loud (refine (added_c w _ w.heap.size _ _ ns lx HS1.out.names HS1.out.below HS1.out.below.size (by have := HLN.out; have := HSH.out; omega) (fresh_ne HS1.out.terms)).mono ?_; rintro e w5 ⟨v', rfl, A5⟩; obtain ⟨Av', cv', rfl⟩ := Kd.R_slice A5.row; have HS2 := Aside0.mk (HS1.out.addName A5); have HT2 := Aside0.mk (HS1.out.toks HS1.out.names HT1.out A5.grown 1 (v' := .slice Av' (addF ns lx).length cv')); have G5 := blk_grown HS1.out.cellG A5.grown (Kd.R_ne HS1.out.names HS1.out.cellG (by decide)); have d1 := blk_cell G5 1; have d2 := blk_frozen G5 1; have J8 := blk_far (p := ⟨w.heap.size, 1, none⟩) (blk_grown J7.out A5.grown (Kd.R_ne HS1.out.names J7.out (by decide))) (by show wr.heap.size ≠ w.heap.size; omega) (.slice Av' (addF ns lx).length cv'); have d3 := blk_cell J8 3; clear A5 G5 J8; simp only [List.getElem?_toArray, List.getElem?_cons_zero, List.getElem?_cons_succ] at d1 d3))
          clear c1 d1 d2 d3 hx1 hx2 hx3 hx4
          have HGQ : Aside0 (∃ q, quotesF right ts = q) := ⟨_, rfl⟩
          obtain ⟨QT, hQT⟩ := HGQ.out
          have hg := HG2.out
          rw [hQT] at hg
          have HG3 := Aside0.mk hg
          have HQT := Aside0.mk hQT
          have HNL := Aside0.mk (show (addF ns lx).length ≤ k + 1 by have h1 := addF_le ns lx; have := HLN.out; omega)
          have HTL := Aside0.mk (show ts.length ≤ 8 * k + 0 by have := HLN.out; omega)
          clear hQT hg HGQ HG2 HLN hbw HS1 HT1 J7 HSt
          have hrl : right.length ≤ 8 := HSH2.out
          obtain ⟨wo, hwo⟩ : ∃ wo : World, wo = wr := ⟨_, rfl⟩
          rw [← hwo] at *
          clear hwo
          go_loopw [46] (fun i wi => ∃ (m : Nat) (ts' : List ByteArray) (v1' : Value), m ≤ right.length ∧ i = .int .i64 m ∧ Aside0 (quotesF (right.drop m) ts' = QT) ∧ Aside0 (ts'.length ≤ 8 * k + m) ∧ Aside0 (OfSt w wi ts' (addF ns lx) [] v1' (.slice Av' (addF ns lx).length cv') (.slice none 0 0) (.slice (some ad) alts.length cva) alts) ∧ Aside0 (kTok.R 49 wi w.heap.size (fun _ => True) (.slice Ar right.length cr) right)) (fun i _ => right.length - (intOf i).toNat)
          case atStart => exact ⟨0, ts, _, Nat.zero_le _, rfl, HQT, HTL, HS2, HT2⟩
          case round =>
            clear HS2 HT2 HQT HTL
            obtain ⟨m, ts', v1', hm, rfl, HQT, HTL, HS2, HT2⟩ := hrel
            obtain ⟨At', ct', rfl⟩ := Kd.R_slice HS2.out.terms
            by_cases hmlt : m < right.length
            · obtain ⟨bd, ebd, hx, hy, hz⟩ := at_tok (Kd.R_reads' HT2.out).2.2 m hmlt
              cases ebd
              obtain ⟨t, ht⟩ : ∃ t, t = right[m]'hmlt := ⟨_, rfl⟩
              have hd := List.drop_eq_getElem_cons hmlt
              rw [← ht] at hx hy hz hd
              have hq := HQT.out
              rw [hd, quotesF] at hq
              obtain ⟨tk, tx, tp⟩ := t
              dsimp only at hx hy hz hq
              by_cases h2 : tk = 2
              · subst h2
                rw [if_pos rfl] at hq
                have HQ2 := Aside0.mk hq
                have HS3 := Aside0.mk (HS2.out.step_ (below_alloc (Below.refl _ _) (.cells #[.int .i64 2, .string tx, .int .i64 tp] 49 (0, 0))))
                have HT3 := Aside0.mk (Kd.R_alloc HT2.out (.cells #[.int .i64 2, .string tx, .int .i64 tp] 49 (0, 0)))
                have c1 := blk_cell HS3.out.cellG 0
                have hbw : w.heap.size < wr.heap.size := blk_lt HS2.out.cellG
                simp only [List.getElem?_toArray, List.getElem?_cons_zero, List.getElem?_cons_succ] at c1
                clear hq hd ht HQT
                go_wp2_with (go_at_call 47; go_loud (refine (added_c w _ w.heap.size _ _ ts' tx HS3.out.terms HS3.out.below HS3.out.below.size (by have := HTL.out; have := HSH.out; omega) (fresh_ne HS3.out.names)).mono ?_; rintro e w6 ⟨v', rfl, A6⟩; obtain ⟨Aw', cw', rfl⟩ := Kd.R_slice A6.row; have HS4 := Aside0.mk (HS3.out.addTerm A6); have HT4 := Aside0.mk (HS3.out.toks HS3.out.terms HT3.out A6.grown 0 (v' := .slice Aw' (addF ts' tx).length cw')); have G6 := blk_grown HS3.out.cellG A6.grown (Kd.R_ne HS3.out.terms HS3.out.cellG (by decide)); have d1 := blk_cell G6 0; have d2 := blk_frozen G6 0; clear A6 G6; simp only [List.getElem?_toArray, List.getElem?_cons_zero, List.getElem?_cons_succ] at d1))
                go_roundw
                case rel => exact ⟨m + 1, addF ts' tx, _, by omega, by go_num, HQ2, ⟨by have h1 := addF_le ts' tx; have := HTL.out; omega⟩, HS4, HT4⟩
                case measure => simp [intOf]; omega
              · rw [if_neg h2] at hq
                have HQ2 := Aside0.mk hq
                have HS3 := Aside0.mk (HS2.out.step_ (below_alloc (Below.refl _ _) (.cells #[.int .i64 tk, .string tx, .int .i64 tp] 49 (0, 0))))
                have HT3 := Aside0.mk (Kd.R_alloc HT2.out (.cells #[.int .i64 tk, .string tx, .int .i64 tp] 49 (0, 0)))
                clear hq hd ht HQT
                go_wp2
                go_roundw
                case rel => exact ⟨m + 1, ts', _, by omega, by go_num, HQ2, ⟨by have := HTL.out; omega⟩, HS3, HT3⟩
                case measure => simp [intOf]; omega
            · have hq := HQT.out
              rw [List.drop_eq_nil_of_le (by omega)] at hq
              have hq2 : ts' = QT := hq
              subst hq2
              go_wp2
              go_roundw
              case rel => exact ⟨k + 1, ts', addF ns lx, _, _, by omega, by go_num, HG3, ⟨by have := HTL.out; have := HNL.out; have := HSH2.out; omega⟩, HS2⟩
              case measure => simp [intOf]; omega
        · have hq := HGA.out
          rw [List.drop_eq_nil_of_le (by omega)] at hq
          have hq2 : GA = (ts, ns) := hq.symm
          subst hq2
          have HF0 : Aside0 (∃ q, rulesF ts ns alts [] = q) := ⟨_, rfl⟩
          obtain ⟨RF, hRF⟩ := HF0.out
          have hr := HRR.out
          dsimp only at hr
          rw [hRF] at hr
          have HRS := Lib.hid hr
          have HRF := Aside0.mk hRF
          have hgl := HGLL.out
          dsimp only [List.length_nil] at hgl
          have htl : ts.length ≤ 480 := by omega
          have hnl : ns.length ≤ 60 := by omega
          clear hr hRF HF0 hq HGA HRR hgl HGLL
          go_wp2
          obtain ⟨wo, hwo⟩ : ∃ wo : World, wo = wr := ⟨_, rfl⟩
          subst hwo
          go_loopw [63] (fun i wr => ∃ (m : Nat) (rs : List Rule) (v3 : Value), m ≤ alts.length ∧ i = .int .i64 m ∧ Aside0 (rulesF ts ns (alts.drop m) rs = RF) ∧ Aside0 (rs.length ≤ m) ∧ Aside0 (OfSt w wr ts ns rs (.slice At ts.length ct) (.slice An ns.length cn) v3 (.slice Ava alts.length cva) alts)) (fun i _ => alts.length - (intOf i).toNat)
          case atStart => exact ⟨0, [], _, Nat.zero_le _, rfl, HRF, ⟨Nat.le_refl _⟩, HSt⟩
          case round =>
            clear HSt HRF
            obtain ⟨m, rs, v3, hm, rfl, HRF, HRL, HSt⟩ := hrel
            obtain ⟨A3, c3, rfl⟩ := Kd.R_slice HSt.out.rules
            by_cases hmlt : m < alts.length
            · obtain ⟨ad, Ar, cr, ead, hx1, hx2, hx3, hx4, hRt⟩ := at_altR HSt.out.alts m hmlt
              cases ead
              obtain ⟨a, ha⟩ : ∃ a, a = alts[m]'hmlt := ⟨_, rfl⟩
              have hd := List.drop_eq_getElem_cons hmlt
              have hsh := HSH.out.1 (alts[m]'hmlt) (List.getElem_mem _)
              rw [← ha] at hx1 hx2 hx3 hx4 hRt hd hsh
              have hg := HRF.out
              rw [hd, rulesF] at hg
              obtain ⟨⟨lk, lx, lp⟩, right⟩ := a
              dsimp only at hx1 hx2 hx3 hx4 hRt hsh
              have HS1 := Aside0.mk (HSt.out.step_ (below_alloc (Below.refl _ _) (.cells #[.int .i64 lk, .string lx, .int .i64 lp, .slice Ar right.length cr] 74 (0, 0))))
              have HT1 := Aside0.mk (Kd.R_alloc hRt (.cells #[.int .i64 lk, .string lx, .int .i64 lp, .slice Ar right.length cr] 74 (0, 0)))
              have HC1 := Aside0.mk (HS1.out.rep.2.2.2)
              have c1 := blk_cell HS1.out.cellG 0
              have c2 := blk_cell HS1.out.cellG 1
              have c3' := blk_cell HS1.out.cellG 2
              simp only [List.getElem?_toArray, List.getElem?_cons_zero, List.getElem?_cons_succ] at c1 c2 c3'
              cases hnum : numF ts ns ⟨⟨lk, lx, lp⟩, right⟩ with
              | error er =>
                obtain ⟨a, p⟩ := er
                rw [hnum] at hg
                have hR : RES = .error (a, p) := by rw [HRS.out, ← hg]
                have HR := Lib.hid hR
                have HN := Lib.hid hnum
                clear hR hnum hg hd ha HRF
                go_wp2_with (go_at_call 48; go_loud (refine (numbered_c _ ts ns At An A3 Ar ct cn rs.length c3 cr ⟨⟨lk, lx, lp⟩, right⟩ HC1.out.terms HC1.out.names (Kd.R_reads' HT1.out).2.2 (by show right.length ≤ 4000; omega) (by omega) (by omega)).mono ?_; rw [HN.out]; rintro e w5 ⟨rfl, hb5⟩))
                have hP := blk_below HS1.out.cellG hb5
                have hQ := blk_below HS1.out.cellF hb5
                have hB := below_then HS1.out.below HS1.out.below.size hb5
                refine leaves_cons (f := 44) (args := #[.pointer (some ⟨w.heap.size, 0, none⟩), .pointer (some ⟨w.heap.size + 1, 0, none⟩)]) (by simp) (by simp [go_sem]) ?_
                refine (of_thrown hP hQ hB).mono ?_
                rintro e u' w'' ⟨rfl, rfl, hP2, hQ2, hB2⟩
                refine ⟨_, results_of rfl rfl hP2 hQ2, ?_, hB2⟩
                rw [HR.out]
                rfl
              | ok x =>
                rw [hnum] at hg
                obtain ⟨xl, xr⟩ := x
                have HG2 := Aside0.mk hg
                have HN := Lib.hid hnum
                clear hnum hg hd ha HRF
                cases hany : rs.any (fun y => decide (y = ⟨xl, xr⟩)) with
                | true =>
                  go_wp2_with (first | (have _hq := HS2.out; go_at_call 49; go_loud (refine (has_c A3 Bx c3 dx rs.length rs ⟨xl, xr⟩ _ HS2.out.rep.2.2.2.rules HV2.out.2.1 HV2.out.2.2).mono ?_; rw [hany]; rintro e w6 ⟨rfl, hb6⟩; have HS3 := Aside0.mk (HS2.out.step_ hb6); clear hb6)) | (go_at_call 48; go_loud (refine (numbered_c _ ts ns At An A3 Ar ct cn rs.length c3 cr ⟨⟨lk, lx, lp⟩, right⟩ HC1.out.terms HC1.out.names (Kd.R_reads' HT1.out).2.2 (by show right.length ≤ 4000; omega) (by omega) (by omega)).mono ?_; rw [HN.out]; rintro e w5 ⟨⟨vx, rfl, hx⟩, hb5⟩; obtain ⟨Bx, dx, rfl⟩ := Kd.R_slice hx; dsimp only at hx; have HS2 := Aside0.mk ((HS1.out.step_ hb5).step_ (below_alloc (Below.refl _ _) (.cells #[.int .i64 xl, .slice Bx xr.length dx] 56 (0, 0)))); have HV2 := Aside0.mk (Kd.R_reads' (Kd.R_alloc hx (.cells #[.int .i64 xl, .slice Bx xr.length dx] 56 (0, 0)))); have d1 := blk_cell HS2.out.cellG 2; clear hb5 hx; simp only [List.getElem?_toArray, List.getElem?_cons_zero, List.getElem?_cons_succ] at d1)))
                  go_roundw
                  case rel => exact ⟨m + 1, rs, _, by omega, by go_num, ⟨by have h := HG2.out; unfold pushF at h; rw [hany, if_pos rfl] at h; exact h⟩, ⟨by have := HRL.out; omega⟩, HS3⟩
                  case measure => simp [intOf]; omega
                | false =>
                  go_wp2_with (first | (have _hq := HS3.out; at_builtin; go_loud (refine app_rule (w0 := w) (base := w.heap.size) (xs := rs) (p := ⟨xl, xr⟩) (ok := fun _ => True) rfl rfl HS3.out.rules (Kd.R_mono (Kd.R_apartR HV3.out HS3.out.rules (by decide)) (fun _ h => h.2)) HS3.out.below HS3.out.below.size (by have := HRL.out; omega) rfl (by simp [Act.eval]) ?_; intro v7 w7 A7; obtain ⟨Av7, cv7, rfl⟩ := A7.shape; have HS4 := Aside0.mk (HS3.out.addRule A7); have G7 := blk_grown HS3.out.cellG A7.grown (Kd.R_ne HS3.out.rules HS3.out.cellG (by decide)); have e1 := blk_cell G7 2; have e2 := blk_frozen G7 2; clear A7 G7; simp only [List.getElem?_toArray, List.getElem?_cons_zero, List.getElem?_cons_succ] at e1)) | (have _hq := HS2.out; go_at_call 49; go_loud (refine (has_c A3 Bx c3 dx rs.length rs ⟨xl, xr⟩ _ HS2.out.rep.2.2.2.rules HV2.out.2.1 HV2.out.2.2).mono ?_; rw [hany]; rintro e w6 ⟨rfl, hb6⟩; have HS3 := Aside0.mk (HS2.out.step_ hb6); have HV3 := Aside0.mk (Kd.R_below HX2.out hb6); have HJ3 := Aside0.mk (blk_below HJ2.out hb6); clear hb6; have f1 := blk_cell HS3.out.cellG 2; have f2 := blk_cell HJ3.out 0; have f3 := blk_cell HJ3.out 1; simp only [List.getElem?_toArray, List.getElem?_cons_zero, List.getElem?_cons_succ] at f1 f2 f3)) | (go_at_call 48; go_loud (refine (numbered_c _ ts ns At An A3 Ar ct cn rs.length c3 cr ⟨⟨lk, lx, lp⟩, right⟩ HC1.out.terms HC1.out.names (Kd.R_reads' HT1.out).2.2 (by show right.length ≤ 4000; omega) (by omega) (by omega)).mono ?_; rw [HN.out]; rintro e w5 ⟨⟨vx, rfl, hx⟩, hb5⟩; obtain ⟨Bx, dx, rfl⟩ := Kd.R_slice hx; dsimp only at hx; have HS2 := Aside0.mk ((HS1.out.step_ hb5).step_ (below_alloc (Below.refl _ _) (.cells #[.int .i64 xl, .slice Bx xr.length dx] 56 (0, 0)))); have HV2 := Aside0.mk (Kd.R_reads' (Kd.R_alloc hx (.cells #[.int .i64 xl, .slice Bx xr.length dx] 56 (0, 0)))); have HX2 := Aside0.mk (Kd.R_lower (Kd.R_alloc hx (.cells #[.int .i64 xl, .slice Bx xr.length dx] 56 (0, 0))) (base' := w.heap.size) HS1.out.below.size); have HJ2 := Aside0.mk (blk_new w5 (.cells #[.int .i64 xl, .slice Bx xr.length dx] 56 (0, 0))); have d1 := blk_cell HS2.out.cellG 2; clear hb5 hx; simp only [List.getElem?_toArray, List.getElem?_cons_zero, List.getElem?_cons_succ] at d1)))
                  go_roundw
                  case rel => exact ⟨m + 1, rs ++ [⟨xl, xr⟩], _, by omega, by go_num, ⟨by have h := HG2.out; unfold pushF at h; rw [hany, if_neg (by simp)] at h; exact h⟩, ⟨by have := HRL.out; simp; omega⟩, HS4⟩
                  case measure => simp [intOf]; omega
            · have hq := HRF.out
              rw [List.drop_eq_nil_of_le (by omega)] at hq
              have hq2 : RF = .ok rs := hq.symm
              subst hq2
              have hr := HRS.out
              dsimp only at hr
              have c1 := blk_cell HSt.out.cellG 0
              have c2 := blk_cell HSt.out.cellG 1
              have c4 := blk_cell HSt.out.cellG 2
              have d1 := blk_cell HSt.out.cellF 0
              have d2 := blk_cell HSt.out.cellF 1
              have f1 := blk_frozen HSt.out.cellG 0
              have f2 := blk_frozen HSt.out.cellG 1
              have f3 := blk_frozen HSt.out.cellG 2
              have f4 := blk_frozen HSt.out.cellF 0
              have f5 := blk_frozen HSt.out.cellF 1
              simp only [List.getElem?_toArray, List.getElem?_cons_zero, List.getElem?_cons_succ] at c1 c2 c4 d1 d2
              have n1 : ¬ w.heap.size = w.heap.size + 1 := by omega
              have n2 : ¬ w.heap.size + 1 = w.heap.size := by omega
              by_cases hbig : 40 < ns.length ∨ 40 < ts.length
              · rw [if_pos hbig] at hr
                have HR := Lib.hid hr
                clear hr
                by_cases hb1 : 40 < ns.length
                · go_wp2_with (go_at_call 45; go_loud (refine (check_bad 14 0 (by decide) _).mono ?_; rintro e w6 ⟨rfl, hb6⟩))
                  have hP := blk_below HSt.out.cellG hb6
                  have hQ := blk_below HSt.out.cellF hb6
                  have hB := below_then HSt.out.below HSt.out.below.size hb6
                  refine leaves_cons (f := 44) (args := #[.pointer (some ⟨w.heap.size, 0, none⟩), .pointer (some ⟨w.heap.size + 1, 0, none⟩)]) (by simp) (by simp [go_sem]) ?_
                  refine (of_thrown hP hQ hB).mono ?_
                  rintro e u' w'' ⟨rfl, rfl, hP2, hQ2, hB2⟩
                  refine ⟨_, results_of rfl rfl hP2 hQ2, ?_, hB2⟩
                  rw [HR.out]
                  rfl
                · have hb2 : 40 < ts.length := by omega
                  go_wp2_with (go_at_call 45; go_loud (refine (check_bad 14 0 (by decide) _).mono ?_; rintro e w6 ⟨rfl, hb6⟩))
                  have hP := blk_below HSt.out.cellG hb6
                  have hQ := blk_below HSt.out.cellF hb6
                  have hB := below_then HSt.out.below HSt.out.below.size hb6
                  refine leaves_cons (f := 44) (args := #[.pointer (some ⟨w.heap.size, 0, none⟩), .pointer (some ⟨w.heap.size + 1, 0, none⟩)]) (by simp) (by simp [go_sem]) ?_
                  refine (of_thrown hP hQ hB).mono ?_
                  rintro e u' w'' ⟨rfl, rfl, hP2, hQ2, hB2⟩
                  refine ⟨_, results_of rfl rfl hP2 hQ2, ?_, hB2⟩
                  rw [HR.out]
                  rfl
              · rw [if_neg hbig] at hr
                have HR := Lib.hid hr
                have hb1 : ¬ 40 < ns.length := by omega
                have hb2 : ¬ 40 < ts.length := by omega
                clear hr hbig
                go_wp2
                refine leaves_cons (f := 44) (args := #[.pointer (some ⟨w.heap.size, 0, none⟩), .pointer (some ⟨w.heap.size + 1, 0, none⟩)]) (by simp) (by simp [go_sem]) ?_
                refine (ofRec_idle _ _ _).mono ?_
                rintro e u' w'' ⟨rfl, rfl, rfl⟩
                have HF := HSt.out.final
                refine ⟨_, results_of rfl rfl HF.cellG HF.cellF, ?_, HF.below⟩
                rw [HR.out]
                exact ⟨At, An, A3, ct, cn, c3, rfl, HF.rep.2.2.2⟩
end Go.Proofs.Ytphmmppmhphgeaa

/- The contracts of the keep package's comparisons. -/
set_option linter.unusedVariables false
set_option linter.unusedSimpArgs false
namespace Go.Proofs.Ytphmmppmhphgeaa
open Go.RowKit Go.Proofs.YtphmmppmhphgeaaW.PrintWords

theorem toList_eq {a b : ByteArray} (h : (!(a.toList == b.toList)) = false) : a = b := by
  have h1 := str_beq a b
  simp only [Bool.not_eq_false'] at h
  rw [h] at h1
  exact of_decide_eq_true h1.symm
theorem toList_ne {a b : ByteArray} (h : (!(a.toList == b.toList)) = true) : ¬ a = b := by
  have h1 := str_beq a b
  simp only [Bool.not_eq_true'] at h
  rw [h] at h1
  exact of_decide_eq_false h1.symm
set_option maxRecDepth 100000 in
set_option maxHeartbeats 1000000 in
theorem keepInts_c (A B : Option Addr) (c d n m : Nat) (xs ys : List Int) (w : World) (hr : kInt.C w A n xs) (hs : kInt.C w B m ys) :
    Calls Try.prog 36 #[.slice A n c, .slice B m d] w fun e w' => e = .returned (.bool (decide (xs = ys))) ∧ Below w.heap.size w w' := by
  have hn := C_len hr
  have hm' := C_len hs
  subst hn hm'
  have hm := C_max hr
  have hm2 := C_max hs
  have HR := Aside0.mk hr
  have HS := Aside0.mk hs
  clear hr hs
  by_cases hl : xs.length = ys.length
  · have hlb : ((xs.length : Int) != (ys.length : Int)) = false := by rw [hl]; simp
    have HL := Lib.hid hl
    clear hl
    go_enter Try.func36, Try.ntmps36
    go_wp2
    go_loopw [5] (fun i wr => ∃ k : Nat, k ≤ xs.length ∧ i = .int .i64 k ∧ Aside0 (∀ j (hj : j < xs.length), j < k → xs[j] = ys[j]'(by have := HL.out; omega)) ∧ Aside0 (Below w.heap.size w wr)) (fun i _ => xs.length - (intOf i).toNat)
    case atStart => exact ⟨0, Nat.zero_le _, rfl, ⟨by intro j hj h; omega⟩, ⟨Below.refl _ _⟩⟩
    case round =>
      obtain ⟨k, hk, rfl, HI, HB⟩ := hrel
      by_cases hlt : k < xs.length
      · have hlt2 : k < ys.length := by have := HL.out; omega
        obtain ⟨ad, ead, hx⟩ := at_int (Kd.C_below HR.out HB.out) k hlt
        obtain ⟨bd, ebd, hy⟩ := at_int (Kd.C_below HS.out HB.out) k hlt2
        cases ead
        cases ebd
        have i1 : (0 : Int) ≤ (k : Int) := by omega
        have i2 : (k : Int) < (xs.length : Int) := by omega
        have i3 : (k : Int) < (ys.length : Int) := by omega
        cases hp : ((xs[k]'hlt) != (ys[k]'hlt2))
        · have HE : Aside0 ((xs[k]'hlt) = (ys[k]'hlt2)) := ⟨by simpa using hp⟩
          go_wp2
          go_quiet (fail)
          go_wp2
          go_roundw
          case rel => exact ⟨k + 1, by omega, by go_num, ⟨fun j hj hjk => by
            rcases Nat.lt_or_ge j k with h | h
            · exact HI.out j hj h
            · obtain rfl : j = k := by omega
              exact HE.out⟩, ⟨below_drewN HB.out _⟩⟩
          case measure => simp [intOf]; omega
        · have HE : Aside0 (¬ (xs[k]'hlt) = (ys[k]'hlt2)) := ⟨by simpa using hp⟩
          go_wp2
          go_quiet (fail)
          go_wp2
          go_ret
          exact ⟨ret_bool (by symm; rw [decide_eq_false_iff_not]; rintro rfl; exact HE.out rfl), below_drewN HB.out _⟩
      · have HE : Aside0 (xs = ys) := ⟨List.ext_getElem HL.out (fun j h1 h2 => HI.out j h1 (by omega))⟩
        go_wp2
        go_ret
        exact ⟨ret_bool (by symm; rw [decide_eq_true_iff]; exact HE.out), HB.out⟩
  · have hlb : ((xs.length : Int) != (ys.length : Int)) = true := by simp; omega
    have HE : Aside0 (¬ xs = ys) := ⟨fun h => hl (by rw [h])⟩
    go_enter Try.func36, Try.ntmps36
    go_wp2
    go_ret
    exact ⟨ret_bool (by symm; rw [decide_eq_false_iff_not]; exact HE.out), Below.refl _ _⟩
set_option maxRecDepth 100000 in
set_option maxHeartbeats 1000000 in
theorem keepTexts_c (A B : Option Addr) (c d n m : Nat) (xs ys : List ByteArray) (w : World) (hr : kStr.C w A n xs) (hs : kStr.C w B m ys) :
    Calls Try.prog 54 #[.slice A n c, .slice B m d] w fun e w' => e = .returned (.bool (decide (xs = ys))) ∧ Below w.heap.size w w' := by
  have hn := C_len hr
  have hm' := C_len hs
  subst hn hm'
  have hm := C_max hr
  have hm2 := C_max hs
  have HR := Aside0.mk hr
  have HS := Aside0.mk hs
  clear hr hs
  by_cases hl : xs.length = ys.length
  · have hlb : ((xs.length : Int) != (ys.length : Int)) = false := by rw [hl]; simp
    have HL := Lib.hid hl
    clear hl
    go_enter Try.func54, Try.ntmps54
    go_wp2
    go_loopw [5] (fun i wr => ∃ k : Nat, k ≤ xs.length ∧ i = .int .i64 k ∧ Aside0 (∀ j (hj : j < xs.length), j < k → xs[j] = ys[j]'(by have := HL.out; omega)) ∧ Aside0 (Below w.heap.size w wr)) (fun i _ => xs.length - (intOf i).toNat)
    case atStart => exact ⟨0, Nat.zero_le _, rfl, ⟨by intro j hj h; omega⟩, ⟨Below.refl _ _⟩⟩
    case round =>
      obtain ⟨k, hk, rfl, HI, HB⟩ := hrel
      by_cases hlt : k < xs.length
      · have hlt2 : k < ys.length := by have := HL.out; omega
        obtain ⟨ad, ead, hx⟩ := at_str (Kd.C_below HR.out HB.out) k hlt
        obtain ⟨bd, ebd, hy⟩ := at_str (Kd.C_below HS.out HB.out) k hlt2
        cases ead
        cases ebd
        have i1 : (0 : Int) ≤ (k : Int) := by omega
        have i2 : (k : Int) < (xs.length : Int) := by omega
        have i3 : (k : Int) < (ys.length : Int) := by omega
        cases hp : (!((xs[k]'hlt).toList == (ys[k]'hlt2).toList))
        · have HE : Aside0 ((xs[k]'hlt) = (ys[k]'hlt2)) := ⟨by first | exact toList_ne hp | exact toList_eq hp⟩
          go_wp2
          go_quiet (fail)
          go_wp2
          go_roundw
          case rel => exact ⟨k + 1, by omega, by go_num, ⟨fun j hj hjk => by
            rcases Nat.lt_or_ge j k with h | h
            · exact HI.out j hj h
            · obtain rfl : j = k := by omega
              exact HE.out⟩, ⟨below_drewN HB.out _⟩⟩
          case measure => simp [intOf]; omega
        · have HE : Aside0 (¬ (xs[k]'hlt) = (ys[k]'hlt2)) := ⟨by first | exact toList_ne hp | exact toList_eq hp⟩
          go_wp2
          go_quiet (fail)
          go_wp2
          go_ret
          exact ⟨ret_bool (by symm; rw [decide_eq_false_iff_not]; rintro rfl; exact HE.out rfl), below_drewN HB.out _⟩
      · have HE : Aside0 (xs = ys) := ⟨List.ext_getElem HL.out (fun j h1 h2 => HI.out j h1 (by omega))⟩
        go_wp2
        go_ret
        exact ⟨ret_bool (by symm; rw [decide_eq_true_iff]; exact HE.out), HB.out⟩
  · have hlb : ((xs.length : Int) != (ys.length : Int)) = true := by simp; omega
    have HE : Aside0 (¬ xs = ys) := ⟨fun h => hl (by rw [h])⟩
    go_enter Try.func54, Try.ntmps54
    go_wp2
    go_ret
    exact ⟨ret_bool (by symm; rw [decide_eq_false_iff_not]; exact HE.out), Below.refl _ _⟩
set_option maxRecDepth 100000 in
set_option maxHeartbeats 1000000 in
theorem keepBools_c (A B : Option Addr) (c d n m : Nat) (xs ys : List Bool) (w : World) (hr : Kd.bool.C w A n xs) (hs : Kd.bool.C w B m ys) :
    Calls Try.prog 29 #[.slice A n c, .slice B m d] w fun e w' => e = .returned (.bool (decide (xs = ys))) ∧ Below w.heap.size w w' := by
  have hn := C_len hr
  have hm' := C_len hs
  subst hn hm'
  have hm := C_max hr
  have hm2 := C_max hs
  have HR := Aside0.mk hr
  have HS := Aside0.mk hs
  clear hr hs
  by_cases hl : xs.length = ys.length
  · have hlb : ((xs.length : Int) != (ys.length : Int)) = false := by rw [hl]; simp
    have HL := Lib.hid hl
    clear hl
    go_enter Try.func29, Try.ntmps29
    go_wp2
    go_loopw [5] (fun i wr => ∃ k : Nat, k ≤ xs.length ∧ i = .int .i64 k ∧ Aside0 (∀ j (hj : j < xs.length), j < k → xs[j] = ys[j]'(by have := HL.out; omega)) ∧ Aside0 (Below w.heap.size w wr)) (fun i _ => xs.length - (intOf i).toNat)
    case atStart => exact ⟨0, Nat.zero_le _, rfl, ⟨by intro j hj h; omega⟩, ⟨Below.refl _ _⟩⟩
    case round =>
      obtain ⟨k, hk, rfl, HI, HB⟩ := hrel
      by_cases hlt : k < xs.length
      · have hlt2 : k < ys.length := by have := HL.out; omega
        obtain ⟨ad, ead, hx⟩ := at_bool (Kd.C_below HR.out HB.out) k hlt
        obtain ⟨bd, ebd, hy⟩ := at_bool (Kd.C_below HS.out HB.out) k hlt2
        cases ead
        cases ebd
        have i1 : (0 : Int) ≤ (k : Int) := by omega
        have i2 : (k : Int) < (xs.length : Int) := by omega
        have i3 : (k : Int) < (ys.length : Int) := by omega
        cases hp : (!((xs[k]'hlt) == (ys[k]'hlt2)))
        · have HE : Aside0 ((xs[k]'hlt) = (ys[k]'hlt2)) := ⟨by simpa using hp⟩
          go_wp2
          go_quiet (fail)
          go_wp2
          go_roundw
          case rel => exact ⟨k + 1, by omega, by go_num, ⟨fun j hj hjk => by
            rcases Nat.lt_or_ge j k with h | h
            · exact HI.out j hj h
            · obtain rfl : j = k := by omega
              exact HE.out⟩, ⟨below_drewN HB.out _⟩⟩
          case measure => simp [intOf]; omega
        · have HE : Aside0 (¬ (xs[k]'hlt) = (ys[k]'hlt2)) := ⟨by simpa using hp⟩
          go_wp2
          go_quiet (fail)
          go_wp2
          go_ret
          exact ⟨ret_bool (by symm; rw [decide_eq_false_iff_not]; rintro rfl; exact HE.out rfl), below_drewN HB.out _⟩
      · have HE : Aside0 (xs = ys) := ⟨List.ext_getElem HL.out (fun j h1 h2 => HI.out j h1 (by omega))⟩
        go_wp2
        go_ret
        exact ⟨ret_bool (by symm; rw [decide_eq_true_iff]; exact HE.out), HB.out⟩
  · have hlb : ((xs.length : Int) != (ys.length : Int)) = true := by simp; omega
    have HE : Aside0 (¬ xs = ys) := ⟨fun h => hl (by rw [h])⟩
    go_enter Try.func29, Try.ntmps29
    go_wp2
    go_ret
    exact ⟨ret_bool (by symm; rw [decide_eq_false_iff_not]; exact HE.out), Below.refl _ _⟩
end Go.Proofs.Ytphmmppmhphgeaa

/- Rows of truth values in memory; the contracts of the questions whether all symbols of a row are so. -/
set_option linter.unusedVariables false
set_option linter.unusedSimpArgs false
namespace Go.Proofs.Ytphmmppmhphgeaa
open Go.RowKit Go.Proofs.YtphmmppmhphgeaaW.PrintWords

/-! ### a block of truth values -/
def BB (W : World) (b : Nat) (m : List Bool) : Prop := W.heap[b]? = some (.cells (m.map Value.bool).toArray 4 (0, 0))
section
variable {W W1 : World} {b : Nat} {m : List Bool}
theorem BB.cell (h : BB W b m) {i : Nat} (hi : i < m.length) : W.cell? ⟨b, i, none⟩ = some (.bool m[i]) := by
  refine (blk_cell h i).trans ?_
  simp [hi]
theorem BB.cell' (h : BB W b m) {i : Nat} {v : Bool} (hi : i < m.length) (hv : getB m (i : Int) = v) : W.cell? ⟨b, i, none⟩ = some (.bool v) := by
  rw [h.cell hi, ← getB_at hi, hv]
theorem BB.set (h : BB W b m) (i : Nat) (v : Bool) : BB (W.setCell ⟨b, i, none⟩ (.bool v)) b (m.set i v) := by
  have := blk_set h i (.bool v)
  unfold BB
  rw [this]
  simp [List.setIfInBounds_toArray, List.map_set]
theorem BB.fz (h : BB W b m) (i : Nat) : W.frozen? ⟨b, i, none⟩ = false := blk_frozen h i
theorem BB.below (h : BB W b m) (hb : Below W.heap.size W W1) : BB W1 b m := blk_below h hb
theorem BB.alloc (h : BB W b m) (o : Obj) : BB (W.alloc o) b m := blk_alloc h o
theorem BB.far (h : BB W b m) {p : Addr} (hp : b ≠ p.block) (u : Value) : BB (W.setCell p u) b m := blk_far h hp u
theorem BB.C (h : BB W b m) (hm : m.length ≤ 9223372036854775807) : Kd.bool.C W (some ⟨b, 0, none⟩) m.length m := by
  refine ⟨rfl, hm, fun _ => ⟨⟨b, 0, none⟩, rfl, fun j p hj => ?_⟩⟩
  obtain ⟨hjl, rfl⟩ := List.getElem?_eq_some_iff.1 hj
  refine ⟨[.bool m[j]], rfl, rfl, fun i u hu => ?_⟩
  cases i with
  | zero =>
    cases hu
    have e : (⟨b, 0, none⟩ : Addr).add (j * 1 + 0) = ⟨b, j, none⟩ := by
      unfold Addr.add
      simp
      intro hj0
      exact hj0.symm
    exact (congrArg W.cell? e).trans (h.cell hjl)
  | succ i => cases hu
theorem BB.new (W : World) (n : Nat) : BB (W.alloc (.cells (madeCells #[.bool false] n) 4)) W.heap.size (List.replicate n false) := by
  refine (blk_new W _).trans ?_
  rw [show madeCells #[.bool false] n = ((List.replicate n false).map Value.bool).toArray from ?_]
  refine Array.ext (by simp [madeCells]) (fun i h1 h2 => ?_)
  simp [madeCells, Nat.mod_one]
end

/-! ### all of a row -/
theorem allF_take {m : List Bool} {l : List Int} {k : Nat} (h : k < l.length) : allF m (l.take (k + 1)) = (allF m (l.take k) && getB m (l[k]'h)) := by
  rw [allF, List.take_succ_eq_append_getElem h, List.all_append]; simp [allF]
theorem allF_no {m : List Bool} {l : List Int} {k : Nat} (h : k < l.length) (hg : getB m (l[k]'h) = false) : allF m l = false := by
  rw [allF, List.all_eq_false]
  exact ⟨_, List.getElem_mem h, by rw [hg]; decide⟩
set_option maxRecDepth 100000 in
set_option maxHeartbeats 2000000 in
theorem allN_c (A B : Option Addr) (c d : Nat) (m : List Bool) (l : List Int) (w : World) (hr : Kd.bool.C w A m.length m) (hs : kInt.C w B l.length l) :
    Calls Try.prog 65 #[.slice A m.length c, .slice B l.length d] w fun e w' => e = .returned (.bool (allF m l)) ∧ w = w' := by
  have hm := C_max hr
  have hm2 := C_max hs
  have HR := Aside0.mk hr
  have HS := Aside0.mk hs
  clear hr hs
  go_enter Try.func65, Try.ntmps65
  go_wp2
  go_loop [9] (fun i => ∃ k : Nat, k ≤ l.length ∧ i = .int .i64 k ∧ Aside0 (allF m (l.take k) = true)) (fun i => l.length - (intOf i).toNat)
  case atStart => exact ⟨0, Nat.zero_le _, rfl, ⟨by simp [allF]⟩⟩
  case round =>
    obtain ⟨k, hk, rfl, HI⟩ := hrel
    by_cases hlt : k < l.length
    · obtain ⟨bd, ebd, hy⟩ := at_int HS.out k hlt
      cases ebd
      have i1 : (0 : Int) ≤ (k : Int) := by omega
      have i2 : (k : Int) < (l.length : Int) := by omega
      have HN := Aside0.mk (fun hg => allF_no (m := m) hlt hg)
      have HT := Lib.hid (allF_take (m := m) hlt)
      obtain ⟨x, hx⟩ : ∃ x, x = l[k]'hlt := ⟨_, rfl⟩
      rw [← hx] at hy HN HT
      clear hx
      by_cases h0 : x < 0
      · have HE : Aside0 (allF m l = false) := ⟨HN.out (getB_out (Or.inl h0))⟩
        go_wp2
        go_ret
        exact ⟨ret_bool HE.out.symm, rfl⟩
      · obtain ⟨j, rfl⟩ := Int.eq_ofNat_of_zero_le (by omega : 0 ≤ x)
        have j1 : (0 : Int) ≤ (j : Int) := by omega
        by_cases h1 : (m.length : Int) ≤ (j : Int)
        · have HE : Aside0 (allF m l = false) := ⟨HN.out (getB_out (Or.inr h1))⟩
          go_wp2
          go_ret
          exact ⟨ret_bool HE.out.symm, rfl⟩
        · have hj : j < m.length := by omega
          have j2 : (j : Int) < (m.length : Int) := by omega
          obtain ⟨ad, ead, hz⟩ := at_bool HR.out j hj
          cases ead
          cases hb : m[j]'hj
          · have HE : Aside0 (allF m l = false) := ⟨HN.out (by rw [getB_at hj, hb])⟩
            rw [hb] at hz
            clear hb
            go_wp2
            go_ret
            exact ⟨ret_bool HE.out.symm, rfl⟩
          · have HE : Aside0 (allF m (l.take (k + 1)) = true) := ⟨by rw [HT.out, HI.out, getB_at hj, hb]; rfl⟩
            rw [hb] at hz
            clear hb
            go_wp2
            go_round
            case rel => exact ⟨k + 1, by omega, by go_num, HE⟩
            case measure => simp [intOf]; omega
    · have HE : Aside0 (allF m l = true) := ⟨by have := HI.out; rwa [List.take_of_length_le (by omega)] at this⟩
      go_wp2
      go_ret
      exact ⟨ret_bool HE.out.symm, rfl⟩
theorem allN_n (A B : Option Addr) (c d n : Nat) (m : List Bool) (l : List Int) (w : World) (hn : m.length = n) (hr : Kd.bool.C w A n m) (hs : kInt.C w B l.length l) :
    Calls Try.prog 65 #[.slice A n c, .slice B l.length d] w fun e w' => e = .returned (.bool (allF m l)) ∧ w = w' := by
  subst hn
  exact allN_c A B c d m l w hr hs
theorem BB.C' {W : World} {b n : Nat} {m : List Bool} (h : BB W b m) (hn : m.length = n) (hm : n ≤ 9223372036854775807) : Kd.bool.C W (some ⟨b, 0, none⟩) n m := by
  subst hn
  exact h.C hm
end Go.Proofs.Ytphmmppmhphgeaa

/- Code with communications in one goroutine that never wait: rules beside those of Code.wp, for frames of ordinary calls. -/
set_option linter.unusedVariables false
set_option linter.unusedSimpArgs false
namespace Go.Proofs.Ytphmmppmhphgeaa
open Go.RowKit Go.Conc

/-- As Code.wp, of frames of ordinary calls alone. -/
def wpN (P : Program) (c : Code) (Q : Exit → Act → World → Prop) (a : Act) (w : World) : Prop :=
  ∀ (b : Frame) (k : List Item) (cs : List Frame), b.kind ≠ .early → ∃ e a' w', Q e a' w' ∧ Arrives P (lone (b.at a (.code c :: k)) cs w) b k cs e a' w'
/-- In the midst of a region. -/
def inN (P : Program) (ops : Array Oper) (l : List Nat) (Q : Exit → Act → World → Prop) (a : Act) (w : World) : Prop :=
  ∀ (b : Frame) (k : List Item) (cs : List Frame), b.kind ≠ .early → ∃ e a' w', Q e a' w' ∧ Arrives P (lone (b.at a (.inRegion ops l :: k)) cs w) b k cs e a' w'
section
variable {P : Program} {Q : Exit → Act → World → Prop} {a : Act} {w : World}
theorem wpN_of_wp {c : Code} (h : c.wp P Q a w) : wpN P c Q a w := fun b k cs _ => h b k cs
theorem wpN_mono {c : Code} {Q' : Exit → Act → World → Prop} (h : wpN P c Q a w) (hq : ∀ e a w, Q e a w → Q' e a w) : wpN P c Q' a w :=
  fun b k cs hb => let ⟨e, a', w', q, r⟩ := h b k cs hb; ⟨e, a', w', hq _ _ _ q, r⟩
theorem wpN_seq {x y : Code} (h : wpN P x (Exit.then (wpN P y Q) Q) a w) : wpN P (Code.seq x y) Q a w := by
  intro b k cs hb
  obtain ⟨e, a₁, w₁, hq, harr⟩ := h b (.code y :: k) cs hb
  cases e with
  | normal =>
    obtain ⟨e₂, a₂, w₂, hq₂, harr₂⟩ := hq b k cs hb
    exact ⟨e₂, a₂, w₂, hq₂, .of_steps (.head step_seq harr) harr₂⟩
  | exit id => exact ⟨_, a₁, w₁, hq, .of_steps (.one step_seq) (.pass (x := .code y) rfl (fun _ _ => .inl (by simp)) harr)⟩
  | goto l => exact ⟨_, a₁, w₁, hq, .of_steps (.one step_seq) (.pass (x := .code y) rfl (fun _ _ => .inl (by simp)) harr)⟩
  | ret => exact ⟨_, a₁, w₁, hq, .of_steps (.one step_seq) (.pass (x := .code y) rfl (fun _ _ => .inl (by simp)) harr)⟩
  | panic ch => exact ⟨_, a₁, w₁, hq, .of_steps (.one step_seq) (.pass (x := .code y) rfl (fun _ _ => .inl (by simp)) harr)⟩
  | outgrown => exact ⟨_, a₁, w₁, hq, .of_steps (.one step_seq) (.pass (x := .code y) rfl (fun _ _ => .inl (by simp)) harr)⟩
/-- What stands ahead has no communication: the walk goes there. -/
theorem wpN_seq_k {x y : Code} (h : ∀ K : Act → World → Prop, (∀ a w, wpN P y Q a w → K a w) → x.wp P (Exit.then K Q) a w) : wpN P (Code.seq x y) Q a w :=
  wpN_seq (wpN_of_wp (h _ fun _ _ h => h))
theorem wpN_seq_n {x y : Code} (h : ∀ K : Act → World → Prop, (∀ a w, wpN P y Q a w → K a w) → wpN P x (Exit.then K Q) a w) : wpN P (Code.seq x y) Q a w :=
  wpN_seq (h _ fun _ _ h => h)
theorem wpN_cond {c : Operand} {x y : Code} {t : Bool} (hc : a.eval c = .bool t) (h : wpN P (if t then x else y) Q a w) : wpN P (Code.cond c x y) Q a w :=
  fun b k cs hb => let ⟨e, a', w', q, r⟩ := h b k cs hb; ⟨e, a', w', q, .of_steps (.one (step_cond hc)) r⟩
theorem wpN_block {id : Nat} {c : Code} (h : wpN P c (Exit.inBlock id Q) a w) : wpN P (Code.block id c) Q a w := by
  intro b k cs hb
  obtain ⟨e, a₁, w₁, hq, harr⟩ := h b (.inBlock id :: k) cs hb
  cases e with
  | normal => exact ⟨.normal, a₁, w₁, hq, .head step_block (Steps.trans harr (.one step_inBlock))⟩
  | exit id' =>
    by_cases hid : id' = id
    · simp only [Exit.inBlock, hid, if_true] at hq
      exact ⟨.normal, a₁, w₁, hq, .head step_block (harr k (by simp [exitTo, hid]))⟩
    · simp only [Exit.inBlock, hid, if_false] at hq
      refine ⟨.exit id', a₁, w₁, hq, fun k' hk => .head step_block (harr k' ?_)⟩
      have : (id == id') = false := by simp; exact fun h => hid h.symm
      simp [exitTo, this, hk]
  | goto l => exact ⟨_, a₁, w₁, hq, fun k' hk => .head step_block (harr k' (by simp [gotoIn, hk]))⟩
  | ret => exact ⟨_, a₁, w₁, hq, .of_steps (.one step_block) harr⟩
  | panic ch => exact ⟨_, a₁, w₁, hq, .of_steps (.one step_block) harr⟩
  | outgrown => exact ⟨_, a₁, w₁, hq, .of_steps (b := b) (k := k) (cs := cs) (e := .outgrown) (.one step_block) harr⟩
theorem wpN_loop {c : Code} (I : Act → World → Prop) (μ : Act → World → Nat) (h₀ : I a w)
    (round : ∀ a w, I a w → ∀ K : Act → World → Prop, (∀ a' w', I a' w' ∧ μ a' w' < μ a w → K a' w') → wpN P c (Exit.then K Q) a w) : wpN P (Code.loop c) Q a w := by
  intro b k cs hb
  have key : ∀ n a w, μ a w = n → I a w →
      ∃ e a' w', Q e a' w' ∧ Arrives P (lone (b.at a (.code c :: .inLoop c :: k)) cs w) b k cs e a' w' := by
    intro n
    induction n using Nat.strongRecOn with
    | _ n ih =>
      intro a w hn hI
      obtain ⟨e, a₁, w₁, hq, harr⟩ := round a w hI (fun a' w' => I a' w' ∧ μ a' w' < μ a w) (fun _ _ h => h) b (.inLoop c :: k) cs hb
      cases e with
      | normal =>
        obtain ⟨hI₁, hlt⟩ := hq
        obtain ⟨e₂, a₂, w₂, hq₂, harr₂⟩ := ih (μ a₁ w₁) (hn ▸ hlt) a₁ w₁ rfl hI₁
        exact ⟨e₂, a₂, w₂, hq₂, .of_steps (Steps.trans harr (.one step_inLoop)) harr₂⟩
      | exit id => exact ⟨_, a₁, w₁, hq, .pass (x := .inLoop c) rfl (fun _ _ => .inl (by simp)) harr⟩
      | goto l => exact ⟨_, a₁, w₁, hq, .pass (x := .inLoop c) rfl (fun _ _ => .inl (by simp)) harr⟩
      | ret => exact ⟨_, a₁, w₁, hq, .pass (x := .inLoop c) rfl (fun _ _ => .inl (by simp)) harr⟩
      | panic ch => exact ⟨_, a₁, w₁, hq, .pass (x := .inLoop c) rfl (fun _ _ => .inl (by simp)) harr⟩
      | outgrown => exact ⟨_, a₁, w₁, hq, .pass (x := .inLoop c) rfl (fun _ _ => .inl (by simp)) harr⟩
  obtain ⟨e, a', w', hq, harr⟩ := key _ a w rfl h₀
  exact ⟨e, a', w', hq, .of_steps (.one step_loop) harr⟩
/-! ### a region, operation by operation -/
variable {ops : Array Oper} {i : Nat} {rest : List Nat} {o : Oper}
theorem wpN_region {id : Nat} (h : inN P ops (List.range ops.size) Q a w) : wpN P (Code.region id ops false) Q a w :=
  fun b k cs hb => let ⟨e, a', w', q, r⟩ := h b k cs hb; ⟨e, a', w', q, .of_steps (.one step_region) r⟩
theorem inN_nil (h : Q .normal a w) : inN P ops [] Q a w := fun b k cs _ => ⟨.normal, a, w, h, .one step_region_end⟩
theorem inN_value {v : Value} {w' : World} (ho : ops[i]? = some o) (hw : Region.wanted o (yielded ops a.tmps) = true) (hr : (execOp a.eval o).run P w = .ok (.value v) w')
    (h : inN P ops rest Q (a.put o.dst v) w') : inN P ops (i :: rest) Q a w := by
  intro b k cs hb
  obtain ⟨e, a', w'', hq, harr⟩ := h b k cs hb
  refine ⟨e, a', w'', hq, .of_steps (.one (step_lone_go ?_)) harr⟩
  have hfin : (b.at a (.inRegion ops (i :: rest) :: k)).finish v = b.at (a.put o.dst v) (.inRegion ops rest :: k) := by
    rw [Frame.finish_at, ho]; rfl
  rw [stepG_op ho hw, ← hfin]
  simp [stepG.apply, hr]
theorem inN_comm {cases : Array CommCase} {blocking : Bool} {shape : CommShape} {w₁ w' : World} {v : Value} (ho : ops[i]? = some o) (hw : Region.wanted o (yielded ops a.tmps) = true)
    (hr : (execOp a.eval o).run P w = .ok (.comm cases blocking shape) w₁)
    (hs : ∀ (fr : Frame) (cs : List Frame) es, stepG P true (G fr cs) w = .comm (G fr cs) cases blocking shape w₁ es → step P (solo (G fr cs) w) = .next (solo (G (fr.finish v) cs) w'))
    (h : inN P ops rest Q (a.put o.dst v) w') : inN P ops (i :: rest) Q a w := by
  intro b k cs hb
  obtain ⟨e, a', w'', hq, harr⟩ := h b k cs hb
  refine ⟨e, a', w'', hq, .of_steps (.one ?_) harr⟩
  have hfin : (b.at a (.inRegion ops (i :: rest) :: k)).finish v = b.at (a.put o.dst v) (.inRegion ops rest :: k) := by
    rw [Frame.finish_at, ho]; rfl
  have := hs (b.at a (.inRegion ops (i :: rest) :: k)) cs _ (stepG_comm ho hw hb hr)
  rw [hfin] at this
  exact this
variable {c cap s r : Nat} {buf : Array Value} {z z' v : Value} {tm closed : Bool} {w₁ : World}
/-- A send into a channel with room. -/
theorem inN_send (ho : ops[i]? = some o) (hw : Region.wanted o (yielded ops a.tmps) = true) (hr : (execOp a.eval o).run P w = .ok (.comm #[scase c v z'] true .send) w₁)
    (hc : w₁.heap[c]? = some (.chan cap buf false s r tm)) (hroom : buf.size < cap) (h : inN P ops rest Q (a.put o.dst undef) (w₁.setChan c cap (buf.push v) false (s + 1) r tm)) : inN P ops (i :: rest) Q a w :=
  inN_comm ho hw hr (fun fr cs es he => step_lone_send_room he hc hroom) h
/-- A select of one receive with a default: something is there. -/
theorem inN_take (ho : ops[i]? = some o) (hw : Region.wanted o (yielded ops a.tmps) = true) (hr : (execOp a.eval o).run P w = .ok (.comm #[rcase c z] false .select) w₁)
    (hc : w₁.heap[c]? = some (.chan cap buf closed s r tm)) (hsome : 0 < buf.size) (h : inN P ops rest Q (a.put o.dst (.tuple #[goInt 0, .bool true, buf.getD 0 undef])) (w₁.setChan c cap (buf.extract 1 buf.size) closed s (r + 1) tm)) : inN P ops (i :: rest) Q a w :=
  inN_comm ho hw hr (fun fr cs es he => step_lone_select_recv_buf he hc hsome) h
/-- Nothing is there: the default. -/
theorem inN_default (ho : ops[i]? = some o) (hw : Region.wanted o (yielded ops a.tmps) = true) (hr : (execOp a.eval o).run P w = .ok (.comm #[rcase c z] false .select) w₁)
    (hc : w₁.heap[c]? = some (.chan cap #[] false s r tm)) (h : inN P ops rest Q (a.put o.dst (.tuple #[goInt (-1), .bool false, z])) w₁) : inN P ops (i :: rest) Q a w :=
  inN_comm ho hw hr (fun fr cs es he => step_lone_select_default he hc) h
end
theorem calls_of_wpN {P : Program} {f : FuncId} {fn : Func} {c : Code} {args : Array Value} {w : World} {R : Ending → World → Prop}
    (hf : P.funcs[f]? = some fn) (hb : fn.body = some c)
    (h : wpN P c (bodyPost P fn R) { tmps := args ++ Array.replicate (fn.ntmps - args.size) undef, defers := [] } w) :
    Calls P f args w R := by
  intro cs
  let b : Frame := { (default : Frame) with fn := f, kind := .normal }
  have henter : Frame.enter P f args .normal =
      b.at { tmps := args ++ Array.replicate (fn.ntmps - args.size) undef, defers := [] } [.code c] := by
    simp [Frame.enter, Frame.at, hf, hb, b]
  obtain ⟨e, a', w', hq, harr⟩ := h b [] cs (by simp [b])
  rw [← henter] at harr
  cases e with
  | normal =>
    obtain ⟨hd, v, hr, hR⟩ := hq
    exact ⟨.returned v, w', _, hR, Steps.trans harr (.one step_end), rfl, rfl, hd, rfl, fn, hf, hr⟩
  | ret =>
    obtain ⟨hd, v, hr, hR⟩ := hq
    obtain ⟨todo, hs⟩ := harr
    exact ⟨.returned v, w', _, hR, hs, rfl, rfl, hd, rfl, fn, hf, hr⟩
  | panic chain =>
    obtain ⟨hd, hR⟩ := hq
    obtain ⟨todo, hs⟩ := harr
    exact ⟨.panicked chain, w', _, hR, hs, rfl, rfl, hd, fn, hf⟩
  | exit id => exact hq.elim
  | goto l => exact hq.elim
  | outgrown => exact ⟨.outgrown, w', b, hq, harr.resolve_left (by simp [b]), rfl, trivial⟩
end Go.Proofs.Ytphmmppmhphgeaa

/- The contract of the program's answer which symbols may be nothing. -/
set_option linter.unusedVariables false
set_option linter.unusedSimpArgs false
namespace Go.Proofs.Ytphmmppmhphgeaa
open Go.RowKit Go.Proofs.YtphmmppmhphgeaaW.PrintWords Go.Conc

/-! ### the plain law -/
def nsym (g : Gram) : Nat := g.terms.length + g.names.length
def hornN (g : Gram) : Horn := g.rules.map fun r => (r.right, r.left)
def noneI : Int → Prop := fun _ => False
def nullF (g : Gram) : List Bool := iter (roundF (hornN g)) (nsym g) (List.replicate (nsym g) false)
theorem goodF_mem {g : Gram} (h : goodF g = true) : ∀ r ∈ g.rules, (g.terms.length : Int) ≤ r.left ∧ r.left < (nsym g : Int) ∧ r.right.length ≤ 8 ∧ ∀ s ∈ r.right, 0 ≤ s ∧ s < (nsym g : Int) := by
  unfold goodF ruledF at h
  simp only [Bool.and_eq_true] at h
  intro r hr
  have := rulF_mem h.1.1.2.2 r hr
  exact ⟨by omega, by unfold nsym; omega, this.2.2.1, fun s hs => by have := this.2.2.2 s hs; unfold nsym; omega⟩
theorem goodF_small {g : Gram} (h : goodF g = true) : g.terms.length ≤ 40 ∧ 1 ≤ g.names.length ∧ g.names.length ≤ 40 ∧ g.rules.length ≤ 60 := by
  unfold goodF ruledF at h
  simp only [Bool.and_eq_true, decide_eq_true_eq] at h
  have h1 := small_names h.1.1.1.1
  have h2 := small_terms h.1.1.1.2
  omega
theorem hornN_in {g : Gram} (h : goodF g = true) : InR (nsym g) (hornN g) := by
  intro x hx
  obtain ⟨r, hr, rfl⟩ := List.mem_map.1 hx
  have := goodF_mem h r hr
  exact ⟨by show (0:Int) ≤ r.left; omega, this.2.1⟩
theorem nullF_is {g : Gram} (h : goodF g = true) : IsDer (hornN g) noneI (nsym g) (nullF g) :=
  rounds_is (hornN_in h) (by simp) (fun s => by rw [getB_replicate]; simp [noneI])
theorem roundF_append (R S : Horn) (m : List Bool) : roundF (R ++ S) m = roundF S (roundF R m) := by
  induction R generalizing m with
  | nil => rfl
  | cons x R ih => exact ih _
theorem roundF_take {R : Horn} {m : List Bool} {j : Nat} (h : j < R.length) : roundF (R.take (j + 1)) m = (if allF (roundF (R.take j) m) (R[j]'h).1 = true then setB (roundF (R.take j) m) (R[j]'h).2 else roundF (R.take j) m) := by
  rw [List.take_succ_eq_append_getElem h, roundF_append]
  rfl
theorem setB_self {m : List Bool} {i : Int} (h : getB m i = true) : setB m i = m := by
  have hi := getB_in h
  obtain ⟨k, rfl⟩ := Int.eq_ofNat_of_zero_le hi.1
  have hk : k < m.length := by omega
  rw [getB_at hk] at h
  unfold setB
  rw [Int.toNat_natCast, ← h]
  exact List.set_getElem_self hk
theorem round_stand {n : Nat} {R : Horn} {m : List Bool} (hR : InR n R) (hl : m.length = n) (h : cnt (roundF R m) ≤ cnt m) : roundF R m = m := ((roundF_le hR hl).cnt_eq h).symm
/-- What stands still, and has been led to, is what is led to. -/
theorem stand_is {n : Nat} {R : Horn} {I : Int → Prop} {m : List Bool} (hR : InR n R) (hl : m.length = n) (hs : Sound R I m) (hI : ∀ s, I s → getB m s = true) (hf : roundF R m = m) : IsDer R I n m :=
  IsDer.mk' hl hs ⟨hI, roundF_fix hR hl hf⟩

/-! ### a channel -/
def CH (W : World) (c cap k r : Nat) : Prop := ∃ buf s, W.heap[c]? = some (.chan cap buf false s r false) ∧ buf.size = k
def rcvd (W : World) (c : Nat) : Nat := match W.heap[c]? with | some (.chan _ _ _ _ r _) => r | _ => 0
theorem CH.rcvd {W : World} {c cap k r : Nat} (h : CH W c cap k r) : rcvd W c = r := by
  obtain ⟨buf, s, h, _⟩ := h
  unfold Go.Proofs.Ytphmmppmhphgeaa.rcvd
  rw [h]
theorem heap_below {W W1 : World} {c : Nat} {o : Obj} (h : W.heap[c]? = some o) (hb : Below W.heap.size W W1) : W1.heap[c]? = some o := by
  have hc : c < W.heap.size := (Array.getElem?_eq_some_iff.1 h).1
  rw [hb.block c hc]; exact h
theorem CH.below {W W1 : World} {c cap k r : Nat} (h : CH W c cap k r) (hb : Below W.heap.size W W1) : CH W1 c cap k r := by
  obtain ⟨buf, s, h, hk⟩ := h
  exact ⟨buf, s, heap_below h hb, hk⟩
theorem heap_far {W : World} {c : Nat} {p : Addr} {o : Obj} (h : W.heap[c]? = some o) (hp : c ≠ p.block) (u : Value) : (W.setCell p u).heap[c]? = some o := (Below.heap_setCell W p u c hp).trans h
theorem CH.far {W : World} {c cap k r : Nat} (h : CH W c cap k r) {p : Addr} (hp : c ≠ p.block) (u : Value) : CH (W.setCell p u) c cap k r := by
  obtain ⟨buf, s, h, hk⟩ := h
  exact ⟨buf, s, heap_far h hp u, hk⟩
theorem chan_far {W : World} {c c' cap : Nat} {buf : Array Value} {cl tm : Bool} {s r : Nat} {o : Obj} (h : W.heap[c']? = some o) (hc : c ≠ c') : (W.setChan c cap buf cl s r tm).heap[c']? = some o := by
  rw [← h]
  simp [World.setChan, Array.getElem?_setIfInBounds_ne hc]
theorem mk_chan (n : Nat) (h : n ≤ 1000000) : ∀ W : World, (Instr.makeChan 94 (.int .i64 (n : Int))).run Try.prog W = .ok (.chan (some W.heap.size)) (W.alloc (.chan n #[] false 0 0 false)) := by
  intro W
  have h0 : (Try.prog.info? 3).map (·.bytes) = some 8 := by kernel_rfl
  obtain ⟨i, hi, hb⟩ := Option.map_eq_some_iff.1 h0
  exact run_makeChan (P := Try.prog) (w := W) Try.underlying94 hi .i64 n (by omega) (by rw [hb]; omega)
theorem CH.new (W : World) (n : Nat) : CH (W.alloc (.chan n #[] false 0 0 false)) W.heap.size n 0 0 := ⟨#[], 0, blk_new W _, rfl⟩
end Go.Proofs.Ytphmmppmhphgeaa

/- The contract of the program's answer which symbols may be nothing: walked. -/
set_option linter.unusedVariables false
set_option linter.unusedSimpArgs false
namespace Go.Proofs.Ytphmmppmhphgeaa
open Go.RowKit Go.Proofs.YtphmmppmhphgeaaW.PrintWords Go.Conc

set_option maxRecDepth 100000 in
set_option maxHeartbeats 2000000 in
theorem ofN_no (g : Gram) (A1 A2 A3 : Option Addr) (c1 c2 c3 : Nat) (w : World) (hg : RepG w g A1 A2 A3 c1 c2 c3) (hno : goodF g = false) :
    Calls Try.prog 30 #[.agg #[.slice A1 g.terms.length c1, .slice A2 g.names.length c2, .slice A3 g.rules.length c3]] w fun e w' => e = .returned (.slice none 0 0) ∧ Below w.heap.size w w' := by
  have HB := Aside0.mk ((Below.refl w.heap.size w).alloc (Nat.le_refl _) (.cells #[.slice A1 g.terms.length c1, .slice A2 g.names.length c2, .slice A3 g.rules.length c3] 25 (0, 0)))
  have HG := Aside0.mk (hg.below_ (below_alloc (Below.refl _ _) (.cells #[.slice A1 g.terms.length c1, .slice A2 g.names.length c2, .slice A3 g.rules.length c3] 25 (0, 0))))
  clear hg
  go_enter Try.func30, Try.ntmps30
  go_wp2_with (go_at_call 23; go_loud (refine (good_c g A1 A2 A3 c1 c2 c3 _ HG.out).mono ?_; rw [hno]; rintro e w1 ⟨rfl, hb1⟩))
  go_ret
  exact ⟨rfl, below_then HB.out HB.out.size hb1⟩
def OfNEnd (w : World) (m : List Bool) (e : Ending) (w' : World) : Prop := ∃ b, e = .returned (.slice (some ⟨b, 0, none⟩) m.length m.length) ∧ BB w' b m ∧ w.heap.size ≤ b
/-- The state of nullable.Of: what is set, what lies in the channel, what was taken. -/
structure NS (w W : World) (b n : Nat) (g : Gram) (A1 A2 A3 : Option Addr) (c1 c2 c3 : Nat) (m : List Bool) (k r : Nat) : Prop where
  bb : BB W b m
  ch : CH W (b + 1) n k r
  box : W.heap[w.heap.size]? = some (.cells #[.slice A1 g.terms.length c1, .slice A2 g.names.length c2, .slice A3 g.rules.length c3] 25 (0, 0))
  below : Below w.heap.size w W
  size : w.heap.size < b
  len : m.length = n
  cnt : k + r = cnt m
  sound : Sound (hornN g) noneI m
theorem NS.below_ {w W W1 : World} {b n : Nat} {g : Gram} {A1 A2 A3 : Option Addr} {c1 c2 c3 : Nat} {m : List Bool} {k r : Nat} (h : NS w W b n g A1 A2 A3 c1 c2 c3 m k r) (hb : Below W.heap.size W W1) : NS w W1 b n g A1 A2 A3 c1 c2 c3 m k r :=
  ⟨h.bb.below hb, h.ch.below hb, blk_below h.box hb, below_then h.below h.below.size hb, h.size, h.len, h.cnt, h.sound⟩
theorem NS.sent {w W : World} {b n : Nat} {g : Gram} {A1 A2 A3 : Option Addr} {c1 c2 c3 : Nat} {m : List Bool} {k r s s' : Nat} {buf : Array Value} (h : NS w W b n g A1 A2 A3 c1 c2 c3 m k r) (hch : W.heap[b + 1]? = some (.chan n buf false s r false)) (hbk : buf.size = k) (lf : Nat) (hl : lf < n) (hg : getB m (lf : Int) = false) (hs : Sound (hornN g) noneI (setB m (lf : Int))) (o : Obj) (v : Value) :
    NS w (((W.setCell ⟨b, lf, none⟩ (.bool true)).alloc o).setChan (b + 1) n (buf.push v) false s' r false) b n g A1 A2 A3 c1 c2 c3 (setB m (lf : Int)) (k + 1) r := by
  have hb1 : b + 1 < W.heap.size := (Array.getElem?_eq_some_iff.1 hch).1
  have h2 := h.size
  refine ⟨chan_far ((h.bb.set lf true).alloc o) (by omega), ⟨buf.push v, s', heap_setChan _ _ _ _ _ _ _ _ (by simp [World.setCell]; omega), by simp [hbk]⟩, chan_far (blk_alloc (blk_far h.box (by show _ ≠ b; omega) _) o) (by omega), below_setChan ((below_set h.below (by omega) _ _).alloc (by simp [World.setCell]; omega) o) (by omega) _ _ _ _ _ _, h.size, by rw [setB_len]; exact h.len, ?_, hs⟩
  rw [cnt_set (by omega) (by rw [h.len]; omega) hg, ← h.cnt]
  omega
theorem NS.took {w W : World} {b n : Nat} {g : Gram} {A1 A2 A3 : Option Addr} {c1 c2 c3 : Nat} {m : List Bool} {k r s : Nat} {buf : Array Value} (h : NS w W b n g A1 A2 A3 c1 c2 c3 m k r) (hch : W.heap[b + 1]? = some (.chan n buf false s r false)) (hbk : buf.size = k) (h0 : 0 < k) :
    NS w (W.setChan (b + 1) n (buf.extract 1 buf.size) false s (r + 1) false) b n g A1 A2 A3 c1 c2 c3 m (k - 1) (r + 1) := by
  have hb1 : b + 1 < W.heap.size := (Array.getElem?_eq_some_iff.1 hch).1
  have h2 := h.size
  exact ⟨chan_far h.bb (by omega), ⟨_, s, heap_setChan _ _ _ _ _ _ _ _ hb1, by simp [hbk]⟩, chan_far h.box (by omega), below_setChan h.below (by omega) _ _ _ _ _ _, h.size, h.len, by have := h.cnt; omega, h.sound⟩
def NOut (w : World) (b n : Nat) (g : Gram) (A1 A2 A3 : Option Addr) (c1 c2 c3 : Nat) (a : Act) (W : World) : Prop :=
  ∃ u0 u5 u6 u7 u8 u9 u10 u11 u12 u13 u14 u15 u16 u17 u18 u19 u20 u21 u22 u23 u24 u25 u26 u27 u28 u29 u30 u31 u32 u33 u34 u35 u36 u37 u38 u39 u40 u41 u42 u43 u44 u45 u46 u47 u48 u49 u50 u51 u52 m k r, a = { tmps := (List.toArray (u0 :: .pointer (some ⟨w.heap.size, 0, none⟩) :: .slice none 0 0 :: .slice (some ⟨b, 0, none⟩) n n :: .chan (some (b + 1)) :: u5 :: u6 :: u7 :: u8 :: u9 :: u10 :: u11 :: u12 :: u13 :: u14 :: u15 :: u16 :: u17 :: u18 :: u19 :: u20 :: u21 :: u22 :: u23 :: u24 :: u25 :: u26 :: u27 :: u28 :: u29 :: u30 :: u31 :: u32 :: u33 :: u34 :: u35 :: u36 :: u37 :: u38 :: u39 :: u40 :: u41 :: u42 :: u43 :: u44 :: u45 :: u46 :: u47 :: u48 :: u49 :: u50 :: u51 :: u52 :: [])), defers := [] } ∧ NS w W b n g A1 A2 A3 c1 c2 c3 m k r
def NIn (w : World) (b n : Nat) (g : Gram) (A1 A2 A3 : Option Addr) (c1 c2 c3 : Nat) (m : List Bool) (r : Nat) (a : Act) (W : World) : Prop :=
  ∃ (u0 u5 u6 u7 u8 u9 u10 u11 u12 u13 u14 u15 u16 u17 u18 u19 u20 u21 u25 u26 u27 u28 u29 u30 u31 u32 u33 u34 u35 u36 u37 u38 u39 u40 u41 u42 u43 u44 u45 u46 u47 u48 u49 u50 u51 u52 : Value) (j k' : Nat), a = { tmps := (List.toArray (u0 :: .pointer (some ⟨w.heap.size, 0, none⟩) :: .slice none 0 0 :: .slice (some ⟨b, 0, none⟩) n n :: .chan (some (b + 1)) :: u5 :: u6 :: u7 :: u8 :: u9 :: u10 :: u11 :: u12 :: u13 :: u14 :: u15 :: u16 :: u17 :: u18 :: u19 :: u20 :: u21 :: .slice A3 g.rules.length c3 :: .int .i64 g.rules.length :: .int .i64 j :: u25 :: u26 :: u27 :: u28 :: u29 :: u30 :: u31 :: u32 :: u33 :: u34 :: u35 :: u36 :: u37 :: u38 :: u39 :: u40 :: u41 :: u42 :: u43 :: u44 :: u45 :: u46 :: u47 :: u48 :: u49 :: u50 :: u51 :: u52 :: [])), defers := [] } ∧ j ≤ g.rules.length ∧ NS w W b n g A1 A2 A3 c1 c2 c3 (roundF ((hornN g).take j) m) k' r
set_option maxRecDepth 100000 in
set_option maxHeartbeats 4000000 in
theorem ofN_yes (g : Gram) (A1 A2 A3 : Option Addr) (c1 c2 c3 : Nat) (w : World) (hg : RepG w g A1 A2 A3 c1 c2 c3) (hgd : goodF g = true) :
    Calls Try.prog 30 #[.agg #[.slice A1 g.terms.length c1, .slice A2 g.names.length c2, .slice A3 g.rules.length c3]] w fun e w' => OfNEnd w (nullF g) e w' ∧ Below w.heap.size w w' := by
  obtain ⟨q1, q2, q3, q4⟩ := goodF_small hgd
  have HGD := Aside0.mk hgd
  have HB := Aside0.mk ((Below.refl w.heap.size w).alloc (Nat.le_refl _) (.cells #[.slice A1 g.terms.length c1, .slice A2 g.names.length c2, .slice A3 g.rules.length c3] 25 (0, 0)))
  have HG0 := Aside0.mk hg
  have HP0 := Aside0.mk (blk_new w (.cells #[.slice A1 g.terms.length c1, .slice A2 g.names.length c2, .slice A3 g.rules.length c3] 25 (0, 0)))
  have HG := Aside0.mk (hg.below_ (below_alloc (Below.refl _ _) (.cells #[.slice A1 g.terms.length c1, .slice A2 g.names.length c2, .slice A3 g.rules.length c3] 25 (0, 0))))
  have HM := Aside0.mk (print_make_of (P := Try.prog) 57 4 (.bool false) 1 Try.underlying57 (by kernel_rfl) rfl (by decide) (nsym g) (by unfold nsym; omega))
  clear hg hgd
  refine calls_of_wpN Try.func30 rfl ?_
  simp only [Try.ntmps30, List.size_toArray, List.length_cons, List.length_nil, Nat.reduceAdd, Nat.reduceSub, Array.replicate_succ, Array.replicate_zero, List.push_toArray, List.append_toArray, List.nil_append, List.cons_append]
  refine wpN_seq_k (fun K hK => ?_)
  go_wp2
  refine wpN_seq_k (fun K hK => ?_)
  go_wp2_with (go_at_call 23; go_loud (refine (good_c g A1 A2 A3 c1 c2 c3 _ HG.out).mono ?_; rw [HGD.out]; rintro e w1 ⟨rfl, hb1⟩))
  have HP1 := Aside0.mk (blk_below HP0.out hb1)
  have HB1 := Aside0.mk (below_then HB.out HB.out.size hb1)
  have hsz : w.heap.size < w1.heap.size := by have := hb1.size; simp at this; omega
  clear hb1
  obtain ⟨n, hn⟩ : ∃ n, n = nsym g := ⟨_, rfl⟩
  have hn80 : n ≤ 80 := by rw [hn]; unfold nsym; omega
  have e1 : IntKind.i64.wrap ((g.terms.length : Int) + (g.names.length : Int)) = (n : Int) := by rw [IntWalk.i64_in _ (by omega), hn]; unfold nsym; omega
  have hmk := HM.out
  rw [← hn] at hmk
  have HN := Lib.hid hn
  clear hn
  have a1 := blk_cell HP1.out 0
  have a2 := blk_cell HP1.out 1
  have a3 := blk_cell HP1.out 2
  simp only [List.getElem?_toArray, List.getElem?_cons_zero, List.getElem?_cons_succ] at a1 a2 a3
  refine wpN_seq_k (fun K hK => ?_)
  go_wp2
  have hmc := mk_chan n (by omega)
  clear e1 hmk
  refine wpN_seq_k (fun K hK => ?_)
  go_wp2
  clear hmc a1 a2 a3
  have HS0 : Aside0 (NS w ((w1.alloc (.cells (madeCells #[.bool false] n) 4)).alloc (.chan n #[] false 0 0 false)) w1.heap.size n g A1 A2 A3 c1 c2 c3 (List.replicate n false) 0 0) :=
    ⟨⟨(BB.new w1 n).alloc _, by have := CH.new (w1.alloc (.cells (madeCells #[.bool false] n) 4)) n; simpa using this, blk_alloc (blk_alloc HP1.out _) _, (HB1.out.alloc HB1.out.size _).alloc (by simp; have := HB1.out.size; omega) _, hsz, by simp, by rw [cnt_replicate], fun s hs => by rw [getB_replicate] at hs; cases hs⟩⟩
  obtain ⟨b, hb⟩ : ∃ b, b = w1.heap.size := ⟨_, rfl⟩
  have hbs : (w1.alloc (.cells (madeCells #[.bool false] n) 4)).heap.size = b + 1 := by rw [hb]; simp
  simp only [World.size_alloc] at *
  rw [← hb] at HS0 ⊢
  refine wpN_block ?_
  refine wpN_loop (NOut w b n g A1 A2 A3 c1 c2 c3) (fun a W => n - rcvd W (b + 1)) ?_ ?_
  · exact ⟨_, _, _, _, _, _, _, _, _, _, _, _, _, _, _, _, _, _, _, _, _, _, _, _, _, _, _, _, _, _, _, _, _, _, _, _, _, _, _, _, _, _, _, _, _, _, _, _, _, _, _, _, rfl, HS0.out⟩
  clear HS0 hbs hb HP1 HB1 hsz
  clear w1
  rintro _ W ⟨u0, u5, u6, u7, u8, u9, u10, u11, u12, u13, u14, u15, u16, u17, u18, u19, u20, u21, u22, u23, u24, u25, u26, u27, u28, u29, u30, u31, u32, u33, u34, u35, u36, u37, u38, u39, u40, u41, u42, u43, u44, u45, u46, u47, u48, u49, u50, u51, u52, m, k, r, rfl, hs⟩ K hK
  have HS := Aside0.mk hs
  clear hs
  have a3 := blk_cell HS.out.box 2
  simp only [List.getElem?_toArray, List.getElem?_cons_zero, List.getElem?_cons_succ] at a3
  refine wpN_block ?_
  refine wpN_seq_n (fun K1 hK1 => ?_)
  refine wpN_seq_k (fun K2 hK2 => ?_)
  go_wp2
  refine wpN_block ?_
  refine wpN_loop (NIn w b n g A1 A2 A3 c1 c2 c3 m r) (fun a W => g.rules.length - (intOf (a.tmps.getD 24 undef)).toNat) ?_ ?_
  · exact ⟨_, _, _, _, _, _, _, _, _, _, _, _, _, _, _, _, _, _, _, _, _, _, _, _, _, _, _, _, _, _, _, _, _, _, _, _, _, _, _, _, _, _, _, _, _, _, 0, k, rfl, Nat.zero_le _, HS.out⟩
  clear a3
  rintro _ W1 ⟨u0, u5, u6, u7, u8, u9, u10, u11, u12, u13, u14, u15, u16, u17, u18, u19, u20, u21, u25, u26, u27, u28, u29, u30, u31, u32, u33, u34, u35, u36, u37, u38, u39, u40, u41, u42, u43, u44, u45, u46, u47, u48, u49, u50, u51, u52, j, k', rfl, hj, hs1⟩ K2 hK2
  have HS1 := Aside0.mk hs1
  clear hs1
  by_cases hlt : j < g.rules.length
  · obtain ⟨ad, B1, d1, ead, hx0, hy0, hd1, hC1⟩ := at_rule HG0.out.rules j hlt
    cases ead
    have hx := pw_cell_below HS1.out.below hx0
    have hy := pw_cell_below HS1.out.below hy0
    clear hx0 hy0
    have hmem := goodF_mem HGD.out (g.rules[j]'hlt) (List.getElem_mem _)
    have HT := Lib.hid (roundF_take (R := hornN g) (m := m) (j := j) (by simpa [hornN] using hlt))
    obtain ⟨x, hx1⟩ : ∃ x, x = g.rules[j]'hlt := ⟨_, rfl⟩
    have hxh : (hornN g)[j]'(by simpa [hornN] using hlt) = (x.right, x.left) := by rw [hx1]; simp [hornN]
    rw [hxh] at HT
    rw [← hx1] at hx hy hd1 hC1 hmem
    have HX := Lib.hid hx1
    clear hx1 hxh
    obtain ⟨lf, hlf⟩ := Int.eq_ofNat_of_zero_le (by omega : 0 ≤ x.left)
    have l1 : (0 : Int) ≤ (lf : Int) := by omega
    have l2 : (lf : Int) < (n : Int) := by rw [HN.out]; omega
    have l3 : lf < n := by omega
    rw [hlf] at hx HT hmem
    have HXS := Aside0.mk hmem.2.2.2
    clear hmem
    obtain ⟨m1, hm1⟩ : ∃ m1, m1 = roundF ((hornN g).take j) m := ⟨_, rfl⟩
    rw [← hm1] at HS1 HT
    have HM1 := Lib.hid hm1
    clear hm1
    have i1 : (0 : Int) ≤ (j : Int) := by omega
    have i2 : (j : Int) < (g.rules.length : Int) := by omega
    have HS2 := Aside0.mk (HS1.out.below_ (below_alloc (Below.refl _ _) (.cells #[.int .i64 lf, .slice B1 x.right.length d1] 56 (0, 0))))
    have HC2 := Aside0.mk (Kd.C_below hC1 HS2.out.below)
    have HD1 := Aside0.mk hd1
    clear hd1 hC1
    cases hgl : getB m1 (lf : Int)
    · have hz := HS2.out.bb.cell' (by rw [HS2.out.len]; exact l3) hgl
      cases hal : allF m1 x.right
      · have HE : Aside0 (roundF ((hornN g).take (j + 1)) m = m1) := ⟨by rw [HT.out, if_neg (by rw [hal]; decide)]⟩
        clear hgl
        refine wpN_of_wp ?_
        go_wp2_with (go_at_call 65; go_loud (refine (allN_n _ _ _ _ n m1 x.right _ HS2.out.len (HS2.out.bb.C' HS2.out.len (by omega)) HC2.out).mono ?_; rw [hal]; rintro e w9 ⟨rfl, rfl⟩))
        exact ⟨⟨_, _, _, _, _, _, _, _, _, _, _, _, _, _, _, _, _, _, _, _, _, _, _, _, _, _, _, _, _, _, _, _, _, _, _, _, _, _, _, _, _, _, _, _, _, _, j + 1, k', rfl, by omega, by rw [HE.out]; exact HS2.out⟩, by simp [intOf]; omega⟩
      · have HE : Aside0 (roundF ((hornN g).take (j + 1)) m = setB m1 (lf : Int)) := ⟨by rw [HT.out, if_pos hal]⟩
        have HSO : Aside0 (Sound (hornN g) noneI (setB m1 (lf : Int))) := ⟨HS2.out.sound.set (b := x.right) (List.mem_map.2 ⟨x, HX.out ▸ List.getElem_mem _, by rw [hlf]⟩) hal ⟨l1, by rw [HS2.out.len]; exact l2⟩⟩
        have fz := HS2.out.bb.fz lf
        have hbW : b < W1.heap.size := (Array.getElem?_eq_some_iff.1 HS1.out.bb).1
        have hcW : b + 1 < W1.heap.size := by obtain ⟨_, _, h, _⟩ := HS1.out.ch; exact (Array.getElem?_eq_some_iff.1 h).1
        have hz2 : ((W1.alloc (.cells #[.int .i64 lf, .slice B1 x.right.length d1] 56 (0, 0))).setCell ⟨b, lf, none⟩ (.bool true)).cell? ⟨W1.heap.size, 0, none⟩ = some (.int .i64 lf) := by
          rw [cell_far (by show W1.heap.size ≠ b; omega)]
          exact (blk_cell (blk_new W1 (.cells #[.int .i64 lf, .slice B1 x.right.length d1] 56 (0, 0))) 0).trans rfl
        have HCT := Aside0.mk (cnt_set l1 (by rw [HS2.out.len]; exact l2) hgl)
        have HGL := Lib.hid hgl
        clear hgl
        refine wpN_seq_k (fun K3 hK3 => ?_)
        go_wp2
        refine wpN_seq_k (fun K3 hK3 => ?_)
        go_wp2
        refine wpN_seq_n (fun K3 hK3 => ?_)
        refine wpN_block ?_
        refine wpN_seq_k (fun K4 hK4 => ?_)
        go_wp2
        refine wpN_seq_k (fun K4 hK4 => ?_)
        go_wp2_with (go_at_call 65; go_loud (refine (allN_n _ _ _ _ n m1 x.right _ HS2.out.len (HS2.out.bb.C' HS2.out.len (by omega)) HC2.out).mono ?_; rw [hal]; rintro e w9 ⟨rfl, rfl⟩))
        refine wpN_cond (t := true) rfl ?_
        simp only [if_true]
        refine wpN_seq_k (fun K4 hK4 => ?_)
        go_wp2
        refine wpN_region ?_
        show inN _ _ [0, 1, 2, 3] _ _ _
        refine inN_value (o := ?o1) (v := ?v1) (w' := ?w1) (by simp only [List.getElem?_toArray, List.getElem?_cons_zero, List.getElem?_cons_succ]; rfl) (by rfl) ?h1 ?_
        case h1 => (go_simp; first | rfl | (constructor; rfl; rfl))
        simp only [Act.put, List.setIfInBounds_toArray, List.set_cons_zero, List.set_cons_succ]
        refine inN_value (o := ?o2) (v := ?v2) (w' := ?w2) (by simp only [List.getElem?_toArray, List.getElem?_cons_zero, List.getElem?_cons_succ]; rfl) (by rfl) ?h2 ?_
        case h2 => (go_simp; first | rfl | (constructor; rfl; rfl))
        simp only [Act.put, List.setIfInBounds_toArray, List.set_cons_zero, List.set_cons_succ]
        refine inN_value (o := ?o3) (v := ?v3) (w' := ?w3) (by simp only [List.getElem?_toArray, List.getElem?_cons_zero, List.getElem?_cons_succ]; rfl) (by rfl) ?h3 ?_
        case h3 => (go_simp; first | rfl | (constructor; rfl; rfl))
        simp only [Act.put, List.setIfInBounds_toArray, List.set_cons_zero, List.set_cons_succ]
        obtain ⟨buf, s, hch, hbk⟩ := HS1.out.ch
        have hroom : buf.size < n := by have := HS2.out.cnt; have := HCT.out; have h3 := cnt_le (setB m1 (lf : Int)); rw [setB_len, HS2.out.len] at h3; omega
        refine inN_send (c := b + 1) (cap := n) (buf := buf) (s := s) (r := r) (tm := false) (o := ?o4) (v := ?v4) (z' := ?z4) (w₁ := ?w4) (by simp only [List.getElem?_toArray, List.getElem?_cons_zero, List.getElem?_cons_succ]; rfl) (by rfl) ?h4 ?c4 hroom ?_
        case h4 => (go_simp; first | rfl | (constructor; rfl; rfl))
        case c4 => exact heap_below (heap_far hch (by simp) _) (below_alloc (Below.refl _ _) _)
        simp only [Act.put, List.setIfInBounds_toArray, List.set_cons_zero, List.set_cons_succ]
        refine inN_nil ?_
        simp only [Exit.inBlock, Exit.then]
        refine hK3 _ _ ?_
        refine wpN_of_wp ?_
        have HS3 := Aside0.mk (HS1.out.sent (s' := s + 1) hch hbk lf l3 HGL.out HSO.out (.cells #[.int .i64 lf, .slice B1 x.right.length d1] 56 (0, 0)) (.int .i64 (lf : Int)))
        clear hch hbk hroom hz hz2 fz hx hy
        go_wp2
        exact ⟨⟨_, _, _, _, _, _, _, _, _, _, _, _, _, _, _, _, _, _, _, _, _, _, _, _, _, _, _, _, _, _, _, _, _, _, _, _, _, _, _, _, _, _, _, _, _, _, j + 1, k' + 1, rfl, by omega, by rw [HE.out]; exact HS3.out⟩, by simp [intOf]; omega⟩
    · have hz := HS2.out.bb.cell' (by rw [HS2.out.len]; exact l3) hgl
      have HE : Aside0 (roundF ((hornN g).take (j + 1)) m = m1) := ⟨by rw [HT.out]; split; exact setB_self hgl; rfl⟩
      clear hgl
      refine wpN_of_wp ?_
      go_wp2
      exact ⟨⟨_, _, _, _, _, _, _, _, _, _, _, _, _, _, _, _, _, _, _, _, _, _, _, _, _, _, _, _, _, _, _, _, _, _, _, _, _, _, _, _, _, _, _, _, _, _, j + 1, k', rfl, by omega, by rw [HE.out]; exact HS2.out⟩, by simp [intOf]; omega⟩
  · obtain ⟨m2, hm2⟩ : ∃ m2, m2 = roundF (hornN g) m := ⟨_, rfl⟩
    have HS2 : Aside0 (NS w W1 b n g A1 A2 A3 c1 c2 c3 m2 k' r) := ⟨by have := HS1.out; rw [List.take_of_length_le (by simp [hornN]; omega), ← hm2] at this; exact this⟩
    have HM2 := Lib.hid hm2
    clear HS1 hm2
    refine wpN_of_wp ?_
    go_wp2
    refine wpN_seq_k (fun K3 hK3 => ?_)
    go_wp2
    refine wpN_seq_n (fun K3 hK3 => ?_)
    refine wpN_region ?_
    show inN _ _ [0, 1, 2] _ _ _
    obtain ⟨buf, s, hch, hbk⟩ := HS2.out.ch
    have HBK := Lib.hid hbk
    clear hbk
    by_cases h0 : 0 < k'
    · refine inN_take (c := b + 1) (cap := n) (buf := buf) (s := s) (r := r) (tm := false) (closed := false) (o := ?o5) (z := ?z5) (w₁ := ?w5) (by simp only [List.getElem?_toArray, List.getElem?_cons_zero, List.getElem?_cons_succ]; rfl) (by rfl) ?h5 ?c5 (by have := HBK.out; omega) ?_
      case h5 => (go_simp; first | rfl | (constructor; rfl; rfl))
      case c5 => exact hch
      simp only [Act.put, List.setIfInBounds_toArray, List.set_cons_zero, List.set_cons_succ]
      refine inN_value (o := ?o6) (v := ?v6) (w' := ?w6) (by simp only [List.getElem?_toArray, List.getElem?_cons_zero, List.getElem?_cons_succ]; rfl) (by rfl) ?h6 ?_
      case h6 => (go_simp; first | rfl | (constructor; rfl; rfl))
      simp only [Act.put, List.setIfInBounds_toArray, List.set_cons_zero, List.set_cons_succ]
      refine inN_value (o := ?o7) (v := ?v7) (w' := ?w7) (by simp only [List.getElem?_toArray, List.getElem?_cons_zero, List.getElem?_cons_succ]; rfl) (by rfl) ?h7 ?_
      case h7 => (go_simp; first | rfl | (constructor; rfl; rfl))
      simp only [Act.put, List.setIfInBounds_toArray, List.set_cons_zero, List.set_cons_succ]
      refine inN_nil ?_
      simp only [Exit.inBlock, Exit.then]
      refine hK3 _ _ ?_
      refine wpN_of_wp ?_
      have HS3 := Aside0.mk (HS2.out.took hch HBK.out h0)
      have hr1 : r < n := by have h1 := HS2.out.cnt; have h3 := cnt_le m2; rw [HS2.out.len] at h3; omega
      have HLT : Aside0 (n - rcvd (W1.setChan (b + 1) n (buf.extract 1 buf.size) false s (r + 1) false) (b + 1) < n - rcvd W (b + 1)) := ⟨by rw [HS3.out.ch.rcvd, HS.out.ch.rcvd]; omega⟩
      clear hch
      go_wp2
      refine ⟨⟨_, _, _, _, _, _, _, _, _, _, _, _, _, _, _, _, _, _, _, _, _, _, _, _, _, _, _, _, _, _, _, _, _, _, _, _, _, _, _, _, _, _, _, _, _, _, _, _, _, m2, k' - 1, r + 1, rfl, HS3.out⟩, ?_⟩
      exact HLT.out
    · obtain rfl : k' = 0 := by omega
      have hb0 : buf = #[] := Array.eq_empty_of_size_eq_zero HBK.out
      rw [hb0] at hch
      refine inN_default (c := b + 1) (cap := n) (s := s) (r := r) (tm := false) (o := ?o8) (z := ?z8) (w₁ := ?w8) (by simp only [List.getElem?_toArray, List.getElem?_cons_zero, List.getElem?_cons_succ]; rfl) (by rfl) ?h8 ?c8 ?_
      case h8 => (go_simp; first | rfl | (constructor; rfl; rfl))
      case c8 => exact hch
      simp only [Act.put, List.setIfInBounds_toArray, List.set_cons_zero, List.set_cons_succ]
      refine inN_value (o := ?o9) (v := ?v9) (w' := ?w9) (by simp only [List.getElem?_toArray, List.getElem?_cons_zero, List.getElem?_cons_succ]; rfl) (by rfl) ?h9 ?_
      case h9 => (go_simp; first | rfl | (constructor; rfl; rfl))
      simp only [Act.put, List.setIfInBounds_toArray, List.set_cons_zero, List.set_cons_succ]
      refine inN_value (o := ?o10) (v := ?v10) (w' := ?w10) (by simp only [List.getElem?_toArray, List.getElem?_cons_zero, List.getElem?_cons_succ]; rfl) (by rfl) ?h10 ?_
      case h10 => (go_simp; first | rfl | (constructor; rfl; rfl))
      simp only [Act.put, List.setIfInBounds_toArray, List.set_cons_zero, List.set_cons_succ]
      refine inN_nil ?_
      simp only [Exit.inBlock, Exit.then]
      refine hK3 _ _ ?_
      refine wpN_of_wp ?_
      have hst : roundF (hornN g) m = m := round_stand (hornN_in HGD.out) (by rw [HS.out.len, HN.out]) (by have h1 := HS2.out.cnt; have h2 := HS.out.cnt; rw [HM2.out] at h1; omega)
      have hm : m2 = nullF g := by
        rw [HM2.out, hst]
        exact (stand_is (hornN_in HGD.out) (by rw [HS.out.len, HN.out]) HS.out.sound (fun s h => h.elim) hst).unique (nullF_is HGD.out)
      have hln : n = (nullF g).length := by rw [← hm]; exact HS2.out.len.symm
      have HE : Aside0 (OfNEnd w (nullF g) (.returned (.slice (some ⟨b, 0, none⟩) n n)) W1) := ⟨⟨b, by rw [← hln], by rw [← hm]; exact HS2.out.bb, by have := HS2.out.size; omega⟩⟩
      clear hst hm hln hch hb0
      go_wp2
      go_ret
      exact ⟨HE.out, HS2.out.below⟩
end Go.Proofs.Ytphmmppmhphgeaa

/- A call within a region that draws its order, by its contract. -/
set_option linter.unusedVariables false
set_option linter.unusedSimpArgs false
namespace Go.Proofs.Ytphmmppmhphgeaa
open Go.RowKit Go.Proofs.YtphmmppmhphgeaaW.PrintWords Go.Proofs.YtphmmppmhphgeaaW.PrintLast
section
variable {P : Program} {ops : Array Oper} {Q : Exit → Act → World → Prop}
theorem goesC_ {oi : Oper} {N : Option Tmp} {a : Act} {w : World} {K : Act → World → Prop} {f : FuncId} {fn : Func} {az : Array Operand} {ts : Array TypeId} {args : Array Value} {R : Ending → World → Prop} (hf : P.funcs[f]? = some fn) (hname : (fn.name == "runtime.NumGoroutine") = false) (hb : fn.body.isSome = true)
    (hw : Region.wanted oi (yielded ops a.tmps) = true) (hN : oi.dst = N) (hop : oi.op = .call { callee := .value (.func f), args := az, argTypes := ts }) (hc : Calls P f args w R) (hargs : az.map a.eval = args)
    (h : ∀ e w', R e w' → ∃ v, e = .returned v ∧ K (a.put N v) w') : if Region.wanted oi (yielded ops a.tmps) = true then Oper.wp P oi a w K Q else K (a.put N undef) w :=
  goes_ hf hname hb args hw hN hop hargs (hc.mono h)
/-! ### a region in its order, its worlds told by 'Below' of one world -/
variable {rest : List Oper} {oi : Oper} {a : Act} {w : World}
theorem goesCL_ {f : FuncId} {fn : Func} {az : Array Operand} {ts : Array TypeId} {args : Array Value} {R : Ending → World → Prop} {N : Option Tmp} (hf : P.funcs[f]? = some fn) (hname : (fn.name == "runtime.NumGoroutine") = false) (hb : fn.body.isSome = true)
    (hw : Region.wanted oi (yielded ops a.tmps) = true) (hN : oi.dst = N) (hop : oi.op = .call { callee := .value (.func f), args := az, argTypes := ts }) (hc : Calls P f args w R) (hargs : az.map a.eval = args)
    (h : ∀ e w', R e w' → ∃ v, e = .returned v ∧ wpList P ops Q rest (a.put N v) w') : wpList P ops Q (oi :: rest) a w := by
  subst hN
  exact wpList_step fun K hK => goesC_ hf hname hb hw rfl hop hc hargs fun e w' r => let ⟨v, he, h2⟩ := h e w' r; ⟨v, he, hK _ _ h2⟩
theorem pl_value {N : Option Tmp} {w1 : World} {v : Value} (hw : Region.wanted oi (yielded ops a.tmps) = true) (hN : oi.dst = N) (hrun : (execOp a.eval oi).run P w = .ok (.value v) w1) (h : wpList P ops Q rest (a.put N v) w1) : wpList P ops Q (oi :: rest) a w := by
  subst hN
  exact wpList_step fun K hK => value_ hw rfl hrun (hK _ _ h)
theorem pl_alloc {N : Option Tmp} {o : Obj} {v : Value} (hw : Region.wanted oi (yielded ops a.tmps) = true) (hN : oi.dst = N) (hrun : (execOp a.eval oi).run P w = .ok (.value v) (w.alloc o))
    (h : ∀ x : World, Below w.heap.size w x → x.heap[w.heap.size]? = some o → x.heap.size = w.heap.size + 1 → Hid (x = w.alloc o) → wpList P ops Q rest (a.put N v) x) : wpList P ops Q (oi :: rest) a w :=
  pl_value hw hN hrun (h _ (below_alloc (Below.refl _ _) _) (blk_new w o) (by simp) (Lib.hid rfl))
theorem pl_held {B : Nat} {v : World} {l : List Oper} (hS : Below B v w) (h : Below B v w → wpList P ops Q l a w) : wpList P ops Q l a w := h hS
theorem pl_skip {w1 : World} (hw : Region.wanted oi (yielded ops a.tmps) = true) (hN : oi.dst = none) (hrun : (execOp a.eval oi).run P w = .ok .skip w1) (h : wpList P ops Q rest a w1) : wpList P ops Q (oi :: rest) a w :=
  wpList_step fun K hK => by have := skip_ (K := K) (Q := Q) hw hN hrun (hK _ _ h); rw [hN]; exact this
theorem pl_world {l : List Oper} {o : Obj} (h : ∀ x : World, Below w.heap.size w x → x.heap[w.heap.size]? = some o → x.heap.size = w.heap.size + 1 → Hid (x = w.alloc o) → wpList P ops Q l a x) : wpList P ops Q l a (w.alloc o) :=
  h _ (below_alloc (Below.refl _ _) _) (blk_new w o) (by simp) (Lib.hid rfl)
theorem pl_off {N : Option Tmp} (hw : Region.wanted oi (yielded ops a.tmps) = false) (hN : oi.dst = N) (h : wpList P ops Q rest (a.put N undef) w) : wpList P ops Q (oi :: rest) a w := wpList_skip hw (by rw [hN]; exact h)
end
end Go.Proofs.Ytphmmppmhphgeaa

/- The contracts of the questions whether a row, or a rule's right side, may be nothing. -/
set_option linter.unusedVariables false
set_option linter.unusedSimpArgs false
namespace Go.Proofs.Ytphmmppmhphgeaa
open Go.RowKit Go.Proofs.YtphmmppmhphgeaaW.PrintWords Go.Proofs.YtphmmppmhphgeaaW.PrintLast

def allB (g : Gram) (l : List Int) : Bool := goodF g && allF (nullF g) l
def ruleB (g : Gram) (i : Int) : Bool := decide (0 ≤ i) && decide (i < g.rules.length) && allB g (g.rules.getD i.toNat default).right
def nullO (g : Gram) : List Bool := if goodF g = true then nullF g else []
theorem nullF_len {g : Gram} (h : goodF g = true) : (nullF g).length = nsym g := (nullF_is h).1
set_option maxRecDepth 100000 in
set_option maxHeartbeats 2000000 in
theorem allP_c (g : Gram) (A1 A2 A3 : Option Addr) (c1 c2 c3 : Nat) (B : Option Addr) (d : Nat) (l : List Int) (w : World) (hg : RepG w g A1 A2 A3 c1 c2 c3) (hs : kInt.C w B l.length l) {v : Bool} (hv : allB g l = v) :
    Calls Try.prog 34 #[.agg #[.slice A1 g.terms.length c1, .slice A2 g.names.length c2, .slice A3 g.rules.length c3], .slice B l.length d] w fun e w' => e = .returned (.bool v) ∧ Below w.heap.size w w' := by
  have HB := Aside0.mk ((Below.refl w.heap.size w).alloc (Nat.le_refl _) (.cells #[.slice A1 g.terms.length c1, .slice A2 g.names.length c2, .slice A3 g.rules.length c3] 25 (0, 0)))
  have HG := Aside0.mk (hg.below_ (below_alloc (Below.refl _ _) (.cells #[.slice A1 g.terms.length c1, .slice A2 g.names.length c2, .slice A3 g.rules.length c3] 25 (0, 0))))
  have HS := Aside0.mk hs
  have HV := Lib.hid hv
  clear hg hs hv
  cases hgd : goodF g
  · have HE : Aside0 (v = false) := ⟨by rw [← HV.out, allB, hgd]; rfl⟩
    have HGD := Lib.hid hgd
    clear hgd
    go_enter Try.func34, Try.ntmps34
    go_wp2_with (go_at_call 30; go_loud (refine (ofN_no g A1 A2 A3 c1 c2 c3 _ HG.out HGD.out).mono ?_; rintro e w1 ⟨rfl, hb1⟩; have HB1 := Aside0.mk (below_then HB.out HB.out.size hb1); clear hb1))
    go_ret
    exact ⟨ret_bool HE.out.symm, HB1.out⟩
  · have HE : Aside0 (allF (nullF g) l = v) := ⟨by rw [← HV.out, allB, hgd]; rfl⟩
    have HL := Lib.hid (nullF_len hgd)
    have q := goodF_small hgd
    have HM : Aside0 ((nullF g).length ≤ 100) := ⟨by rw [HL.out]; unfold nsym; omega⟩
    have HGD := Lib.hid hgd
    clear hgd
    go_enter Try.func34, Try.ntmps34
    go_wp2_with (first | (go_at_call 65; go_loud (refine (allN_c _ _ _ _ (nullF g) l _ (HBB.out.C (by have := HM.out; omega)) (Kd.C_below HS.out HB1.out)).mono ?_; rw [HE.out]; rintro e w9 ⟨rfl, rfl⟩)) | (go_at_call 30; go_loud (refine (ofN_yes g A1 A2 A3 c1 c2 c3 _ HG.out HGD.out).mono ?_; rintro e w1 ⟨⟨b, rfl, hbb, hbs⟩, hb1⟩; have HB1 := Aside0.mk (below_then HB.out HB.out.size hb1); have HBB := Aside0.mk hbb; clear hb1 hbb hbs)))
    go_ret
    exact ⟨rfl, HB1.out⟩
set_option maxRecDepth 100000 in
set_option maxHeartbeats 2000000 in
theorem ruleP_c (g : Gram) (A1 A2 A3 : Option Addr) (c1 c2 c3 : Nat) (i : Int) (w : World) (hg : RepG w g A1 A2 A3 c1 c2 c3) {v : Bool} (hv : ruleB g i = v) :
    Calls Try.prog 32 #[.agg #[.slice A1 g.terms.length c1, .slice A2 g.names.length c2, .slice A3 g.rules.length c3], .int .i64 i] w fun e w' => e = .returned (.bool v) ∧ Below w.heap.size w w' := by
  obtain ⟨v0, hv0⟩ : ∃ v0 : World, v0 = w.alloc (.cells #[.slice A1 g.terms.length c1, .slice A2 g.names.length c2, .slice A3 g.rules.length c3] 25 (0, 0)) := ⟨_, rfl⟩
  have HB := Aside0.mk ((Below.refl w.heap.size w).alloc (Nat.le_refl _) (.cells #[.slice A1 g.terms.length c1, .slice A2 g.names.length c2, .slice A3 g.rules.length c3] 25 (0, 0)))
  have HG := Aside0.mk (hg.below_ (below_alloc (Below.refl _ _) (.cells #[.slice A1 g.terms.length c1, .slice A2 g.names.length c2, .slice A3 g.rules.length c3] 25 (0, 0))))
  have HP := Aside0.mk (blk_new w (.cells #[.slice A1 g.terms.length c1, .slice A2 g.names.length c2, .slice A3 g.rules.length c3] 25 (0, 0)))
  rw [← hv0] at HB HG HP
  have HV := Lib.hid hv
  clear hg hv
  by_cases h0 : 0 ≤ i
  · obtain ⟨k, rfl⟩ := Int.eq_ofNat_of_zero_le h0
    by_cases h1 : k < g.rules.length
    · have d1 : decide (0 ≤ (k : Int)) = true := by simp
      have d2 : decide ((k : Int) < (g.rules.length : Int)) = true := by simp; omega
      have i2 : (k : Int) < (g.rules.length : Int) := by omega
      obtain ⟨ad, B1, e1, ead, hx, hy, hd1, hC1⟩ := at_rule HG.out.rules k h1
      cases ead
      have HC := Aside0.mk hC1
      have HY := Aside0.mk hy
      have HE : Aside0 (allB g (g.rules[k]'h1).right = v) := ⟨by rw [← HV.out, ruleB, d1, d2]; simp [h1]⟩
      clear hx hy hC1 hd1
      obtain ⟨x, hx⟩ : ∃ x, x = (g.rules[k]'h1).right := ⟨_, rfl⟩
      rw [← hx] at HC HY HE
      clear hx
      go_enter Try.func32, Try.ntmps32
      go_wp2
      simp only [← hv0]
      refine start_ (n := 20) (S := fun w' => Below v0.heap.size v0 w') (ds := []) (lb 20 0x0) (by kernel_rfl) rfl (by kernel_rfl) (below_drew1 (Below.refl _ _)) (fun hHeld => ?_)
      refine pure_ (i := 0) (N := (some 5)) (v := ?_) (a' := ?_) (lb 20 0x1) rfl rfl (by kernel_rfl) (fun _ _ _ h => h) (Or.inl ⟨by rfl, ?_⟩) ?_ ?_
      rotate_left
      · (intro w'; go_simp; with_reducible rfl)
      rotate_left
      · (simp only [Act.put, List.setIfInBounds_toArray, List.set_cons_zero, List.set_cons_succ]; rfl)
      refine pure_ (i := 1) (N := (some 6)) (v := ?_) (a' := ?_) (lb 20 0x3) rfl rfl (by kernel_rfl) (fun _ _ _ h => h) (Or.inl ⟨by rfl, ?_⟩) ?_ ?_
      rotate_left
      · (intro w'; go_simp; with_reducible rfl)
      rotate_left
      · (simp only [Act.put, List.setIfInBounds_toArray, List.set_cons_zero, List.set_cons_succ]; rfl)
      refine pure_ (i := 2) (N := (some 7)) (v := ?_) (a' := ?_) (lb 20 0x7) rfl rfl (by kernel_rfl) (fun _ _ _ h => h) (Or.inl ⟨by rfl, ?_⟩) ?_ ?_
      rotate_left
      · (intro w'; go_simp; with_reducible rfl)
      rotate_left
      · (simp only [Act.put, List.setIfInBounds_toArray, List.set_cons_zero, List.set_cons_succ]; rfl)
      refine pure_ (i := 3) (N := (some 8)) (v := ?_) (a' := ?_) (lb 20 0xf) rfl rfl (by kernel_rfl) (fun _ _ _ h => h) (Or.inl ⟨by rfl, ?_⟩) ?_ ?_
      rotate_left
      · (intro w'; go_simp; with_reducible rfl)
      rotate_left
      · (simp only [Act.put, List.setIfInBounds_toArray, List.set_cons_zero, List.set_cons_succ]; rfl)
      refine pure_ (i := 4) (N := (some 9)) (v := ?_) (a' := ?_) (lb 20 0x1f) rfl rfl (by kernel_rfl) (fun _ _ _ h => h) (Or.inl ⟨by rfl, ?_⟩) ?_ ?_
      rotate_left
      · (intro w'; go_simp; with_reducible rfl)
      rotate_left
      · (simp only [Act.put, List.setIfInBounds_toArray, List.set_cons_zero, List.set_cons_succ]; rfl)
      refine take_ (i := 5) (N := (some 10)) (v := ?_) (a' := ?_) (lb 20 0x3f) rfl rfl (by kernel_rfl) (fun _ _ _ h => h) (Or.inl ⟨by rfl, ?_⟩) hHeld ?_ ?_
      rotate_left
      · (rintro w' hS; have d0 := (blk_cell (blk_below HP.out hS) 0).trans rfl; have d1 := (blk_cell (blk_below HP.out hS) 1).trans rfl; have d2 := (blk_cell (blk_below HP.out hS) 2).trans rfl; have d3 := cell_at hS HY.out; go_simp; with_reducible rfl)
      rotate_left
      · (simp only [Act.put, List.setIfInBounds_toArray, List.set_cons_zero, List.set_cons_succ]; rfl)
      refine pure_ (i := 6) (N := (some 11)) (v := ?_) (a' := ?_) (lb 20 0x7f) rfl rfl (by kernel_rfl) (fun _ _ _ h => h) (Or.inl ⟨by rfl, ?_⟩) ?_ ?_
      rotate_left
      · (intro w'; go_simp; with_reducible rfl)
      rotate_left
      · (simp only [Act.put, List.setIfInBounds_toArray, List.set_cons_zero, List.set_cons_succ]; rfl)
      refine pure_ (i := 7) (N := (some 12)) (v := ?_) (a' := ?_) (lb 20 0xff) rfl rfl (by kernel_rfl) (fun _ _ _ h => h) (Or.inl ⟨by rfl, ?_⟩) ?_ ?_
      rotate_left
      · (intro w'; go_simp; with_reducible rfl)
      rotate_left
      · (simp only [Act.put, List.setIfInBounds_toArray, List.set_cons_zero, List.set_cons_succ]; rfl)
      refine pure_ (i := 8) (N := (some 13)) (v := ?_) (a' := ?_) (lb 20 0x1ff) rfl rfl (by kernel_rfl) (fun _ _ _ h => h) (Or.inl ⟨by rfl, ?_⟩) ?_ ?_
      rotate_left
      · (intro w'; go_simp; with_reducible rfl)
      rotate_left
      · (simp only [Act.put, List.setIfInBounds_toArray, List.set_cons_zero, List.set_cons_succ]; rfl)
      refine pure_ (i := 9) (N := (some 14)) (v := ?_) (a' := ?_) (lb 20 0x3ff) rfl rfl (by kernel_rfl) (fun _ _ _ h => h) (Or.inl ⟨by rfl, ?_⟩) ?_ ?_
      rotate_left
      · (intro w'; go_simp; with_reducible rfl)
      rotate_left
      · (simp only [Act.put, List.setIfInBounds_toArray, List.set_cons_zero, List.set_cons_succ]; rfl)
      refine pure_ (i := 11) (N := (some 16)) (v := ?_) (a' := ?_) (lb 20 0xbff) rfl rfl (by kernel_rfl) (fun _ _ _ h => h) (Or.inl ⟨by rfl, ?_⟩) ?_ ?_
      rotate_left
      · (intro w'; go_simp; with_reducible rfl)
      rotate_left
      · (simp only [Act.put, List.setIfInBounds_toArray, List.set_cons_zero, List.set_cons_succ]; rfl)
      refine pure_ (i := 13) (N := (some 18)) (v := ?_) (a' := ?_) (lb 20 0x2bff) rfl rfl (by kernel_rfl) (fun _ _ _ h => h) (Or.inl ⟨by rfl, ?_⟩) ?_ ?_
      rotate_left
      · (intro w'; go_simp; with_reducible rfl)
      rotate_left
      · (simp only [Act.put, List.setIfInBounds_toArray, List.set_cons_zero, List.set_cons_succ]; rfl)
      refine take_ (i := 10) (N := (some 15)) (v := ?_) (a' := ?_) (lb 20 0x2fff) rfl rfl (by kernel_rfl) (fun _ _ _ h => h) (Or.inl ⟨by rfl, ?_⟩) hHeld ?_ ?_
      rotate_left
      · (rintro w' hS; have d0 := (blk_cell (blk_below HP.out hS) 0).trans rfl; have d1 := (blk_cell (blk_below HP.out hS) 1).trans rfl; have d2 := (blk_cell (blk_below HP.out hS) 2).trans rfl; have d3 := cell_at hS HY.out; go_simp; with_reducible rfl)
      rotate_left
      · (simp only [Act.put, List.setIfInBounds_toArray, List.set_cons_zero, List.set_cons_succ]; rfl)
      refine take_ (i := 12) (N := (some 17)) (v := ?_) (a' := ?_) (lb 20 0x3fff) rfl rfl (by kernel_rfl) (fun _ _ _ h => h) (Or.inl ⟨by rfl, ?_⟩) hHeld ?_ ?_
      rotate_left
      · (rintro w' hS; have d0 := (blk_cell (blk_below HP.out hS) 0).trans rfl; have d1 := (blk_cell (blk_below HP.out hS) 1).trans rfl; have d2 := (blk_cell (blk_below HP.out hS) 2).trans rfl; have d3 := cell_at hS HY.out; go_simp; with_reducible rfl)
      rotate_left
      · (simp only [Act.put, List.setIfInBounds_toArray, List.set_cons_zero, List.set_cons_succ]; rfl)
      refine pure_ (i := 14) (N := (some 19)) (v := ?_) (a' := ?_) (lb 20 0x7fff) rfl rfl (by kernel_rfl) (fun _ _ _ h => h) (Or.inl ⟨by rfl, ?_⟩) ?_ ?_
      rotate_left
      · (intro w'; go_simp; with_reducible rfl)
      rotate_left
      · (simp only [Act.put, List.setIfInBounds_toArray, List.set_cons_zero, List.set_cons_succ]; rfl)
      refine pure_ (i := 15) (N := (some 20)) (v := ?_) (a' := ?_) (lb 20 0xffff) rfl rfl (by kernel_rfl) (fun _ _ _ h => h) (Or.inl ⟨by rfl, ?_⟩) ?_ ?_
      rotate_left
      · (intro w'; go_simp; with_reducible rfl)
      rotate_left
      · (simp only [Act.put, List.setIfInBounds_toArray, List.set_cons_zero, List.set_cons_succ]; rfl)
      refine take_ (i := 16) (N := (some 21)) (v := ?_) (a' := ?_) (lb 20 0x1ffff) rfl rfl (by kernel_rfl) (fun _ _ _ h => h) (Or.inl ⟨by rfl, ?_⟩) hHeld ?_ ?_
      rotate_left
      · (rintro w' hS; have d0 := (blk_cell (blk_below HP.out hS) 0).trans rfl; have d1 := (blk_cell (blk_below HP.out hS) 1).trans rfl; have d2 := (blk_cell (blk_below HP.out hS) 2).trans rfl; have d3 := cell_at hS HY.out; go_simp; with_reducible rfl)
      rotate_left
      · (simp only [Act.put, List.setIfInBounds_toArray, List.set_cons_zero, List.set_cons_succ]; rfl)
      refine one_ (i := 17) (N := (some 22)) (lb 20 0x3ffff) rfl rfl (by kernel_rfl) (by decide) (fun K hK => ?_)
      (refine goesC_ Try.func34 (by kernel_rfl) rfl (by rfl) rfl rfl (allP_c g A1 A2 (some ad) c1 c2 c3 B1 e1 x _ (HG.out.below_ hHeld) (Kd.C_below HC.out hHeld) HE.out) (by simp [Act.eval]) ?_; rintro e w9 ⟨rfl, hb9⟩; refine ⟨_, rfl, ?_⟩; have HQ9 := Aside0.mk (below_then hHeld hHeld.size hb9); clear hb9; refine hK.out _ _ HQ9.out (fun hHeld => ?_))
      skip
      clear hK K
      refine norm_ (a' := ?_) ?_ ?_
      rotate_left
      · (show Act.put _ (some 22) _ = _; simp only [Act.put, List.setIfInBounds_toArray, List.set_cons_zero, List.set_cons_succ]; rfl)
      refine pure_ (i := 18) (N := (some 23)) (v := ?_) (a' := ?_) (lb 20 0x7ffff) rfl rfl (by kernel_rfl) (fun _ _ _ h => h) (Or.inl ⟨by rfl, ?_⟩) ?_ ?_
      rotate_left
      · (intro w'; go_simp; with_reducible rfl)
      rotate_left
      · (simp only [Act.put, List.setIfInBounds_toArray, List.set_cons_zero, List.set_cons_succ]; rfl)
      refine pure_ (i := 19) (N := (some 4)) (v := ?_) (a' := ?_) (lb 20 0xfffff) rfl rfl (by kernel_rfl) (fun _ _ _ h => h) (Or.inl ⟨by rfl, ?_⟩) ?_ ?_
      rotate_left
      · (intro w'; go_simp; with_reducible rfl)
      rotate_left
      · (simp only [Act.put, List.setIfInBounds_toArray, List.set_cons_zero, List.set_cons_succ]; rfl)
      refine done_ (by kernel_rfl) ?_
      go_wp2
      go_ret
      exact ⟨rfl, below_then HB.out HB.out.size hHeld⟩
    · have d1 : decide (0 ≤ (k : Int)) = true := by simp
      have d2 : decide ((k : Int) < (g.rules.length : Int)) = false := by simp; omega
      have i2 : ¬ (k : Int) < (g.rules.length : Int) := by omega
      have HE : Aside0 (v = false) := ⟨by rw [← HV.out, ruleB, d1, d2]; simp⟩
      go_enter Try.func32, Try.ntmps32
      go_wp2
      simp only [← hv0]
      refine start_ (n := 20) (S := fun w' => Below v0.heap.size v0 w') (ds := []) (lb 20 0x0) (by kernel_rfl) rfl (by kernel_rfl) (below_drew1 (Below.refl _ _)) (fun hHeld => ?_)
      refine pure_ (i := 0) (N := (some 5)) (v := ?_) (a' := ?_) (lb 20 0x1) rfl rfl (by kernel_rfl) (fun _ _ _ h => h) (Or.inl ⟨by rfl, ?_⟩) ?_ ?_
      rotate_left
      · (intro w'; go_simp; with_reducible rfl)
      rotate_left
      · (simp only [Act.put, List.setIfInBounds_toArray, List.set_cons_zero, List.set_cons_succ]; rfl)
      refine pure_ (i := 1) (N := (some 6)) (v := ?_) (a' := ?_) (lb 20 0x3) rfl rfl (by kernel_rfl) (fun _ _ _ h => h) (Or.inl ⟨by rfl, ?_⟩) ?_ ?_
      rotate_left
      · (intro w'; go_simp; with_reducible rfl)
      rotate_left
      · (simp only [Act.put, List.setIfInBounds_toArray, List.set_cons_zero, List.set_cons_succ]; rfl)
      refine pure_ (i := 2) (N := (some 7)) (v := ?_) (a' := ?_) (lb 20 0x7) rfl rfl (by kernel_rfl) (fun _ _ _ h => h) (Or.inl ⟨by rfl, ?_⟩) ?_ ?_
      rotate_left
      · (intro w'; go_simp; with_reducible rfl)
      rotate_left
      · (simp only [Act.put, List.setIfInBounds_toArray, List.set_cons_zero, List.set_cons_succ]; rfl)
      refine pure_ (i := 3) (N := (some 8)) (v := ?_) (a' := ?_) (lb 20 0xf) rfl rfl (by kernel_rfl) (fun _ _ _ h => h) (Or.inl ⟨by rfl, ?_⟩) ?_ ?_
      rotate_left
      · (intro w'; go_simp; with_reducible rfl)
      rotate_left
      · (simp only [Act.put, List.setIfInBounds_toArray, List.set_cons_zero, List.set_cons_succ]; rfl)
      refine pure_ (i := 4) (N := (some 9)) (v := ?_) (a' := ?_) (lb 20 0x1f) rfl rfl (by kernel_rfl) (fun _ _ _ h => h) (Or.inl ⟨by rfl, ?_⟩) ?_ ?_
      rotate_left
      · (intro w'; go_simp; with_reducible rfl)
      rotate_left
      · (simp only [Act.put, List.setIfInBounds_toArray, List.set_cons_zero, List.set_cons_succ]; rfl)
      refine take_ (i := 5) (N := (some 10)) (v := ?_) (a' := ?_) (lb 20 0x3f) rfl rfl (by kernel_rfl) (fun _ _ _ h => h) (Or.inl ⟨by rfl, ?_⟩) hHeld ?_ ?_
      rotate_left
      · (rintro w' hS; have d0 := (blk_cell (blk_below HP.out hS) 0).trans rfl; have d1 := (blk_cell (blk_below HP.out hS) 1).trans rfl; have d2 := (blk_cell (blk_below HP.out hS) 2).trans rfl; go_simp; with_reducible rfl)
      rotate_left
      · (simp only [Act.put, List.setIfInBounds_toArray, List.set_cons_zero, List.set_cons_succ]; rfl)
      refine pure_ (i := 6) (N := (some 11)) (v := ?_) (a' := ?_) (lb 20 0x7f) rfl rfl (by kernel_rfl) (fun _ _ _ h => h) (Or.inl ⟨by rfl, ?_⟩) ?_ ?_
      rotate_left
      · (intro w'; go_simp; with_reducible rfl)
      rotate_left
      · (simp only [Act.put, List.setIfInBounds_toArray, List.set_cons_zero, List.set_cons_succ]; rfl)
      refine pure_ (i := 7) (N := (some 12)) (v := ?_) (a' := ?_) (lb 20 0xff) rfl rfl (by kernel_rfl) (fun _ _ _ h => h) (Or.inl ⟨by rfl, ?_⟩) ?_ ?_
      rotate_left
      · (intro w'; go_simp; with_reducible rfl)
      rotate_left
      · (simp only [Act.put, List.setIfInBounds_toArray, List.set_cons_zero, List.set_cons_succ]; rfl)
      refine pure_ (i := 8) (N := (some 13)) (v := ?_) (a' := ?_) (lb 20 0x1ff) rfl rfl (by kernel_rfl) (fun _ _ _ h => h) (Or.inl ⟨by rfl, ?_⟩) ?_ ?_
      rotate_left
      · (intro w'; go_simp; with_reducible rfl)
      rotate_left
      · (simp only [Act.put, List.setIfInBounds_toArray, List.set_cons_zero, List.set_cons_succ]; rfl)
      refine pure_ (i := 9) (N := (some 14)) (v := ?_) (a' := ?_) (lb 20 0x3ff) rfl rfl (by kernel_rfl) (fun _ _ _ h => h) (Or.inl ⟨by rfl, ?_⟩) ?_ ?_
      rotate_left
      · (intro w'; go_simp; with_reducible rfl)
      rotate_left
      · (simp only [Act.put, List.setIfInBounds_toArray, List.set_cons_zero, List.set_cons_succ]; rfl)
      refine pure_ (i := 11) (N := (some 16)) (v := undef) (a' := ?_) (lb 20 0xbff) rfl rfl (by kernel_rfl) (fun _ _ _ h => h) (Or.inr ⟨by rfl, rfl⟩) ?_ ?_
      rotate_left
      · (simp only [Act.put, List.setIfInBounds_toArray, List.set_cons_zero, List.set_cons_succ]; rfl)
      refine pure_ (i := 13) (N := (some 18)) (v := undef) (a' := ?_) (lb 20 0x2bff) rfl rfl (by kernel_rfl) (fun _ _ _ h => h) (Or.inr ⟨by rfl, rfl⟩) ?_ ?_
      rotate_left
      · (simp only [Act.put, List.setIfInBounds_toArray, List.set_cons_zero, List.set_cons_succ]; rfl)
      refine pure_ (i := 10) (N := (some 15)) (v := undef) (a' := ?_) (lb 20 0x2fff) rfl rfl (by kernel_rfl) (fun _ _ _ h => h) (Or.inr ⟨by rfl, rfl⟩) ?_ ?_
      rotate_left
      · (simp only [Act.put, List.setIfInBounds_toArray, List.set_cons_zero, List.set_cons_succ]; rfl)
      refine pure_ (i := 12) (N := (some 17)) (v := undef) (a' := ?_) (lb 20 0x3fff) rfl rfl (by kernel_rfl) (fun _ _ _ h => h) (Or.inr ⟨by rfl, rfl⟩) ?_ ?_
      rotate_left
      · (simp only [Act.put, List.setIfInBounds_toArray, List.set_cons_zero, List.set_cons_succ]; rfl)
      refine pure_ (i := 14) (N := (some 19)) (v := undef) (a' := ?_) (lb 20 0x7fff) rfl rfl (by kernel_rfl) (fun _ _ _ h => h) (Or.inr ⟨by rfl, rfl⟩) ?_ ?_
      rotate_left
      · (simp only [Act.put, List.setIfInBounds_toArray, List.set_cons_zero, List.set_cons_succ]; rfl)
      refine pure_ (i := 15) (N := (some 20)) (v := undef) (a' := ?_) (lb 20 0xffff) rfl rfl (by kernel_rfl) (fun _ _ _ h => h) (Or.inr ⟨by rfl, rfl⟩) ?_ ?_
      rotate_left
      · (simp only [Act.put, List.setIfInBounds_toArray, List.set_cons_zero, List.set_cons_succ]; rfl)
      refine pure_ (i := 16) (N := (some 21)) (v := undef) (a' := ?_) (lb 20 0x1ffff) rfl rfl (by kernel_rfl) (fun _ _ _ h => h) (Or.inr ⟨by rfl, rfl⟩) ?_ ?_
      rotate_left
      · (simp only [Act.put, List.setIfInBounds_toArray, List.set_cons_zero, List.set_cons_succ]; rfl)
      refine one_ (i := 17) (N := (some 22)) (lb 20 0x3ffff) rfl rfl (by kernel_rfl) (by decide) (fun K hK => ?_)
      refine off_ (by rfl) ?_
      refine hK.out _ _ hHeld (fun hHeld => ?_)
      clear hK K
      refine norm_ (a' := ?_) ?_ ?_
      rotate_left
      · (show Act.put _ (some 22) _ = _; simp only [Act.put, List.setIfInBounds_toArray, List.set_cons_zero, List.set_cons_succ]; rfl)
      refine pure_ (i := 18) (N := (some 23)) (v := ?_) (a' := ?_) (lb 20 0x7ffff) rfl rfl (by kernel_rfl) (fun _ _ _ h => h) (Or.inl ⟨by rfl, ?_⟩) ?_ ?_
      rotate_left
      · (intro w'; go_simp; with_reducible rfl)
      rotate_left
      · (simp only [Act.put, List.setIfInBounds_toArray, List.set_cons_zero, List.set_cons_succ]; rfl)
      refine pure_ (i := 19) (N := (some 4)) (v := ?_) (a' := ?_) (lb 20 0xfffff) rfl rfl (by kernel_rfl) (fun _ _ _ h => h) (Or.inl ⟨by rfl, ?_⟩) ?_ ?_
      rotate_left
      · (intro w'; go_simp; with_reducible rfl)
      rotate_left
      · (simp only [Act.put, List.setIfInBounds_toArray, List.set_cons_zero, List.set_cons_succ]; rfl)
      refine done_ (by kernel_rfl) ?_
      go_wp2
      go_ret
      exact ⟨ret_bool HE.out.symm, below_then HB.out HB.out.size hHeld⟩
  · have d1 : decide (0 ≤ i) = false := by simp; omega
    have HE : Aside0 (v = false) := ⟨by rw [← HV.out, ruleB, d1]; simp⟩
    go_enter Try.func32, Try.ntmps32
    go_wp2
    simp only [← hv0]
    refine start_ (n := 20) (S := fun w' => Below v0.heap.size v0 w') (ds := []) (lb 20 0x0) (by kernel_rfl) rfl (by kernel_rfl) (below_drew1 (Below.refl _ _)) (fun hHeld => ?_)
    refine pure_ (i := 0) (N := (some 5)) (v := ?_) (a' := ?_) (lb 20 0x1) rfl rfl (by kernel_rfl) (fun _ _ _ h => h) (Or.inl ⟨by rfl, ?_⟩) ?_ ?_
    rotate_left
    · (intro w'; go_simp; with_reducible rfl)
    rotate_left
    · (simp only [Act.put, List.setIfInBounds_toArray, List.set_cons_zero, List.set_cons_succ]; rfl)
    refine pure_ (i := 1) (N := (some 6)) (v := ?_) (a' := ?_) (lb 20 0x3) rfl rfl (by kernel_rfl) (fun _ _ _ h => h) (Or.inl ⟨by rfl, ?_⟩) ?_ ?_
    rotate_left
    · (intro w'; go_simp; with_reducible rfl)
    rotate_left
    · (simp only [Act.put, List.setIfInBounds_toArray, List.set_cons_zero, List.set_cons_succ]; rfl)
    refine pure_ (i := 2) (N := (some 7)) (v := ?_) (a' := ?_) (lb 20 0x7) rfl rfl (by kernel_rfl) (fun _ _ _ h => h) (Or.inl ⟨by rfl, ?_⟩) ?_ ?_
    rotate_left
    · (intro w'; go_simp; with_reducible rfl)
    rotate_left
    · (simp only [Act.put, List.setIfInBounds_toArray, List.set_cons_zero, List.set_cons_succ]; rfl)
    refine pure_ (i := 3) (N := (some 8)) (v := undef) (a' := ?_) (lb 20 0xf) rfl rfl (by kernel_rfl) (fun _ _ _ h => h) (Or.inr ⟨by rfl, rfl⟩) ?_ ?_
    rotate_left
    · (simp only [Act.put, List.setIfInBounds_toArray, List.set_cons_zero, List.set_cons_succ]; rfl)
    refine pure_ (i := 4) (N := (some 9)) (v := undef) (a' := ?_) (lb 20 0x1f) rfl rfl (by kernel_rfl) (fun _ _ _ h => h) (Or.inr ⟨by rfl, rfl⟩) ?_ ?_
    rotate_left
    · (simp only [Act.put, List.setIfInBounds_toArray, List.set_cons_zero, List.set_cons_succ]; rfl)
    refine pure_ (i := 5) (N := (some 10)) (v := undef) (a' := ?_) (lb 20 0x3f) rfl rfl (by kernel_rfl) (fun _ _ _ h => h) (Or.inr ⟨by rfl, rfl⟩) ?_ ?_
    rotate_left
    · (simp only [Act.put, List.setIfInBounds_toArray, List.set_cons_zero, List.set_cons_succ]; rfl)
    refine pure_ (i := 6) (N := (some 11)) (v := undef) (a' := ?_) (lb 20 0x7f) rfl rfl (by kernel_rfl) (fun _ _ _ h => h) (Or.inr ⟨by rfl, rfl⟩) ?_ ?_
    rotate_left
    · (simp only [Act.put, List.setIfInBounds_toArray, List.set_cons_zero, List.set_cons_succ]; rfl)
    refine pure_ (i := 7) (N := (some 12)) (v := undef) (a' := ?_) (lb 20 0xff) rfl rfl (by kernel_rfl) (fun _ _ _ h => h) (Or.inr ⟨by rfl, rfl⟩) ?_ ?_
    rotate_left
    · (simp only [Act.put, List.setIfInBounds_toArray, List.set_cons_zero, List.set_cons_succ]; rfl)
    refine pure_ (i := 8) (N := (some 13)) (v := ?_) (a' := ?_) (lb 20 0x1ff) rfl rfl (by kernel_rfl) (fun _ _ _ h => h) (Or.inl ⟨by rfl, ?_⟩) ?_ ?_
    rotate_left
    · (intro w'; go_simp; with_reducible rfl)
    rotate_left
    · (simp only [Act.put, List.setIfInBounds_toArray, List.set_cons_zero, List.set_cons_succ]; rfl)
    refine pure_ (i := 9) (N := (some 14)) (v := ?_) (a' := ?_) (lb 20 0x3ff) rfl rfl (by kernel_rfl) (fun _ _ _ h => h) (Or.inl ⟨by rfl, ?_⟩) ?_ ?_
    rotate_left
    · (intro w'; go_simp; with_reducible rfl)
    rotate_left
    · (simp only [Act.put, List.setIfInBounds_toArray, List.set_cons_zero, List.set_cons_succ]; rfl)
    refine pure_ (i := 11) (N := (some 16)) (v := undef) (a' := ?_) (lb 20 0xbff) rfl rfl (by kernel_rfl) (fun _ _ _ h => h) (Or.inr ⟨by rfl, rfl⟩) ?_ ?_
    rotate_left
    · (simp only [Act.put, List.setIfInBounds_toArray, List.set_cons_zero, List.set_cons_succ]; rfl)
    refine pure_ (i := 13) (N := (some 18)) (v := undef) (a' := ?_) (lb 20 0x2bff) rfl rfl (by kernel_rfl) (fun _ _ _ h => h) (Or.inr ⟨by rfl, rfl⟩) ?_ ?_
    rotate_left
    · (simp only [Act.put, List.setIfInBounds_toArray, List.set_cons_zero, List.set_cons_succ]; rfl)
    refine pure_ (i := 10) (N := (some 15)) (v := undef) (a' := ?_) (lb 20 0x2fff) rfl rfl (by kernel_rfl) (fun _ _ _ h => h) (Or.inr ⟨by rfl, rfl⟩) ?_ ?_
    rotate_left
    · (simp only [Act.put, List.setIfInBounds_toArray, List.set_cons_zero, List.set_cons_succ]; rfl)
    refine pure_ (i := 12) (N := (some 17)) (v := undef) (a' := ?_) (lb 20 0x3fff) rfl rfl (by kernel_rfl) (fun _ _ _ h => h) (Or.inr ⟨by rfl, rfl⟩) ?_ ?_
    rotate_left
    · (simp only [Act.put, List.setIfInBounds_toArray, List.set_cons_zero, List.set_cons_succ]; rfl)
    refine pure_ (i := 14) (N := (some 19)) (v := undef) (a' := ?_) (lb 20 0x7fff) rfl rfl (by kernel_rfl) (fun _ _ _ h => h) (Or.inr ⟨by rfl, rfl⟩) ?_ ?_
    rotate_left
    · (simp only [Act.put, List.setIfInBounds_toArray, List.set_cons_zero, List.set_cons_succ]; rfl)
    refine pure_ (i := 15) (N := (some 20)) (v := undef) (a' := ?_) (lb 20 0xffff) rfl rfl (by kernel_rfl) (fun _ _ _ h => h) (Or.inr ⟨by rfl, rfl⟩) ?_ ?_
    rotate_left
    · (simp only [Act.put, List.setIfInBounds_toArray, List.set_cons_zero, List.set_cons_succ]; rfl)
    refine pure_ (i := 16) (N := (some 21)) (v := undef) (a' := ?_) (lb 20 0x1ffff) rfl rfl (by kernel_rfl) (fun _ _ _ h => h) (Or.inr ⟨by rfl, rfl⟩) ?_ ?_
    rotate_left
    · (simp only [Act.put, List.setIfInBounds_toArray, List.set_cons_zero, List.set_cons_succ]; rfl)
    refine one_ (i := 17) (N := (some 22)) (lb 20 0x3ffff) rfl rfl (by kernel_rfl) (by decide) (fun K hK => ?_)
    refine off_ (by rfl) ?_
    refine hK.out _ _ hHeld (fun hHeld => ?_)
    clear hK K
    refine norm_ (a' := ?_) ?_ ?_
    rotate_left
    · (show Act.put _ (some 22) _ = _; simp only [Act.put, List.setIfInBounds_toArray, List.set_cons_zero, List.set_cons_succ]; rfl)
    refine pure_ (i := 18) (N := (some 23)) (v := ?_) (a' := ?_) (lb 20 0x7ffff) rfl rfl (by kernel_rfl) (fun _ _ _ h => h) (Or.inl ⟨by rfl, ?_⟩) ?_ ?_
    rotate_left
    · (intro w'; go_simp; with_reducible rfl)
    rotate_left
    · (simp only [Act.put, List.setIfInBounds_toArray, List.set_cons_zero, List.set_cons_succ]; rfl)
    refine pure_ (i := 19) (N := (some 4)) (v := ?_) (a' := ?_) (lb 20 0xfffff) rfl rfl (by kernel_rfl) (fun _ _ _ h => h) (Or.inl ⟨by rfl, ?_⟩) ?_ ?_
    rotate_left
    · (intro w'; go_simp; with_reducible rfl)
    rotate_left
    · (simp only [Act.put, List.setIfInBounds_toArray, List.set_cons_zero, List.set_cons_succ]; rfl)
    refine done_ (by kernel_rfl) ?_
    go_wp2
    go_ret
    exact ⟨ret_bool HE.out.symm, below_then HB.out HB.out.size hHeld⟩
end Go.Proofs.Ytphmmppmhphgeaa

/- The contracts of the document's answers which symbols may be nothing. -/
set_option linter.unusedVariables false
set_option linter.unusedSimpArgs false
namespace Go.Proofs.Ytphmmppmhphgeaa
open Go.RowKit Go.Proofs.YtphmmppmhphgeaaW.PrintWords Go.Proofs.YtphmmppmhphgeaaW.PrintLast

set_option maxRecDepth 100000 in
set_option maxHeartbeats 2000000 in
theorem all06_c (A B : Option Addr) (c d n : Nat) (m : List Bool) (l : List Int) (w : World) (hn : m.length = n) (hr : Kd.bool.C w A n m) (hs : kInt.C w B l.length l) :
    Calls Try.prog 66 #[.slice B l.length d, .slice A n c] w fun e w' => e = .returned (.bool (allF m l)) ∧ w = w' := by
  subst hn
  have hm := C_max hr
  have hm2 := C_max hs
  have HR := Aside0.mk hr
  have HS := Aside0.mk hs
  clear hr hs
  go_enter Try.func66, Try.ntmps66
  go_wp2
  go_loop [5] (fun i => ∃ k : Nat, k ≤ l.length ∧ i = .int .i64 k ∧ Aside0 (allF m (l.take k) = true)) (fun i => l.length - (intOf i).toNat)
  case atStart => exact ⟨0, Nat.zero_le _, rfl, ⟨by simp [allF]⟩⟩
  case round =>
    obtain ⟨k, hk, rfl, HI⟩ := hrel
    by_cases hlt : k < l.length
    · obtain ⟨bd, ebd, hy⟩ := at_int HS.out k hlt
      cases ebd
      have i1 : (0 : Int) ≤ (k : Int) := by omega
      have i2 : (k : Int) < (l.length : Int) := by omega
      have HN := Aside0.mk (fun hg => allF_no (m := m) hlt hg)
      have HT := Lib.hid (allF_take (m := m) hlt)
      obtain ⟨x, hx⟩ : ∃ x, x = l[k]'hlt := ⟨_, rfl⟩
      rw [← hx] at hy HN HT
      clear hx
      by_cases h0 : x < 0
      · have HE : Aside0 (allF m l = false) := ⟨HN.out (getB_out (Or.inl h0))⟩
        go_wp2
        go_ret
        exact ⟨ret_bool HE.out.symm, rfl⟩
      · obtain ⟨j, rfl⟩ := Int.eq_ofNat_of_zero_le (by omega : 0 ≤ x)
        have j1 : (0 : Int) ≤ (j : Int) := by omega
        by_cases h1 : (m.length : Int) ≤ (j : Int)
        · have HE : Aside0 (allF m l = false) := ⟨HN.out (getB_out (Or.inr h1))⟩
          go_wp2
          go_ret
          exact ⟨ret_bool HE.out.symm, rfl⟩
        · have hj : j < m.length := by omega
          have j2 : (j : Int) < (m.length : Int) := by omega
          obtain ⟨ad, ead, hz⟩ := at_bool HR.out j hj
          cases ead
          cases hb : m[j]'hj
          · have HE : Aside0 (allF m l = false) := ⟨HN.out (by rw [getB_at hj, hb])⟩
            rw [hb] at hz
            clear hb
            go_wp2
            go_ret
            exact ⟨ret_bool HE.out.symm, rfl⟩
          · have HE : Aside0 (allF m (l.take (k + 1)) = true) := ⟨by rw [HT.out, HI.out, getB_at hj, hb]; rfl⟩
            rw [hb] at hz
            clear hb
            go_wp2
            go_round
            case rel => exact ⟨k + 1, by omega, by go_num, HE⟩
            case measure => simp [intOf]; omega
    · have HE : Aside0 (allF m l = true) := ⟨by have := HI.out; rwa [List.take_of_length_le (by omega)] at this⟩
      go_wp2
      go_ret
      exact ⟨ret_bool HE.out.symm, rfl⟩
/-- A grammar's box, and a row of truth values behind it. -/
structure RS (w W : World) (b n : Nat) (g : Gram) (A1 A2 A3 : Option Addr) (c1 c2 c3 : Nat) (m : List Bool) : Prop where
  bb : BB W b m
  box : W.heap[w.heap.size]? = some (.cells #[.slice A1 g.terms.length c1, .slice A2 g.names.length c2, .slice A3 g.rules.length c3] 25 (0, 0))
  below : Below w.heap.size w W
  size : w.heap.size < b
  len : m.length = n
theorem RS.below_ {w W W1 : World} {b n : Nat} {g : Gram} {A1 A2 A3 : Option Addr} {c1 c2 c3 : Nat} {m : List Bool} (h : RS w W b n g A1 A2 A3 c1 c2 c3 m) (hb : Below W.heap.size W W1) : RS w W1 b n g A1 A2 A3 c1 c2 c3 m :=
  ⟨h.bb.below hb, blk_below h.box hb, below_then h.below h.below.size hb, h.size, h.len⟩
theorem RS.set {w W : World} {b n : Nat} {g : Gram} {A1 A2 A3 : Option Addr} {c1 c2 c3 : Nat} {m : List Bool} (h : RS w W b n g A1 A2 A3 c1 c2 c3 m) (i : Nat) : RS w (W.setCell ⟨b, i, none⟩ (.bool true)) b n g A1 A2 A3 c1 c2 c3 (setB m (i : Int)) :=
  ⟨h.bb.set i true, blk_far h.box (by have := h.size; show _ ≠ b; omega) _, below_set h.below (by have := h.size; omega) _ _, h.size, by rw [setB_len]; exact h.len⟩
theorem RS.new {w w1 : World} {n : Nat} {g : Gram} {A1 A2 A3 : Option Addr} {c1 c2 c3 : Nat} (hb : Below w.heap.size w w1) (hp : w1.heap[w.heap.size]? = some (.cells #[.slice A1 g.terms.length c1, .slice A2 g.names.length c2, .slice A3 g.rules.length c3] 25 (0, 0))) (hs : w.heap.size < w1.heap.size) :
    RS w (w1.alloc (.cells (madeCells #[.bool false] n) 4)) w1.heap.size n g A1 A2 A3 c1 c2 c3 (List.replicate n false) :=
  ⟨BB.new w1 n, blk_alloc hp _, hb.alloc hb.size _, hs, by simp⟩
set_option maxRecDepth 100000 in
set_option maxHeartbeats 2000000 in
theorem ofR_no (g : Gram) (A1 A2 A3 : Option Addr) (c1 c2 c3 : Nat) (w : World) (hg : RepG w g A1 A2 A3 c1 c2 c3) (hz : Sized g) (hno : goodF g = false) :
    Calls Try.prog 31 #[.agg #[.slice A1 g.terms.length c1, .slice A2 g.names.length c2, .slice A3 g.rules.length c3]] w fun e w' => e = .returned (.slice none 0 0) ∧ Below w.heap.size w w' := by
  have HB := Aside0.mk ((Below.refl w.heap.size w).alloc (Nat.le_refl _) (.cells #[.slice A1 g.terms.length c1, .slice A2 g.names.length c2, .slice A3 g.rules.length c3] 25 (0, 0)))
  have HG := Aside0.mk (hg.below_ (below_alloc (Below.refl _ _) (.cells #[.slice A1 g.terms.length c1, .slice A2 g.names.length c2, .slice A3 g.rules.length c3] 25 (0, 0))))
  have HZ := Aside0.mk hz
  clear hg hz
  go_enter Try.func31, Try.ntmps31
  go_wp2_with (go_at_call 24; go_loud (refine (good1_c g A1 A2 A3 c1 c2 c3 _ HG.out HZ.out).mono ?_; rw [hno]; rintro e w1 ⟨rfl, hb1⟩))
  go_ret
  exact ⟨rfl, below_then HB.out HB.out.size hb1⟩
set_option maxRecDepth 100000 in
set_option maxHeartbeats 4000000 in
theorem ofR_yes (g : Gram) (A1 A2 A3 : Option Addr) (c1 c2 c3 : Nat) (w : World) (hg : RepG w g A1 A2 A3 c1 c2 c3) (hz : Sized g) (hgd : goodF g = true) :
    Calls Try.prog 31 #[.agg #[.slice A1 g.terms.length c1, .slice A2 g.names.length c2, .slice A3 g.rules.length c3]] w fun e w' => OfNEnd w (nullF g) e w' ∧ Below w.heap.size w w' := by
  obtain ⟨q1, q2, q3, q4⟩ := goodF_small hgd
  have HGD := Aside0.mk hgd
  have HZ := Aside0.mk hz
  have HB := Aside0.mk ((Below.refl w.heap.size w).alloc (Nat.le_refl _) (.cells #[.slice A1 g.terms.length c1, .slice A2 g.names.length c2, .slice A3 g.rules.length c3] 25 (0, 0)))
  have HG0 := Aside0.mk hg
  have HP0 := Aside0.mk (blk_new w (.cells #[.slice A1 g.terms.length c1, .slice A2 g.names.length c2, .slice A3 g.rules.length c3] 25 (0, 0)))
  have HG := Aside0.mk (hg.below_ (below_alloc (Below.refl _ _) (.cells #[.slice A1 g.terms.length c1, .slice A2 g.names.length c2, .slice A3 g.rules.length c3] 25 (0, 0))))
  have hmk := print_make_of (P := Try.prog) 57 4 (.bool false) 1 Try.underlying57 (by kernel_rfl) rfl (by decide) (nsym g) (by unfold nsym; omega)
  obtain ⟨n, hn⟩ : ∃ n, n = nsym g := ⟨_, rfl⟩
  have hn80 : n ≤ 80 := by rw [hn]; unfold nsym; omega
  have e1 : IntKind.i64.wrap ((g.terms.length : Int) + (g.names.length : Int)) = (n : Int) := by rw [IntWalk.i64_in _ (by omega), hn]; unfold nsym; omega
  rw [← hn] at hmk
  have HN := Lib.hid hn
  clear hg hgd hz hn
  go_enter Try.func31, Try.ntmps31
  go_wp2_with (go_at_call 24; go_loud (refine (good1_c g A1 A2 A3 c1 c2 c3 _ HG.out HZ.out).mono ?_; rw [HGD.out]; rintro e w1 ⟨rfl, hb1⟩; have HP1 := Aside0.mk (blk_below HP0.out hb1); have HB1 := Aside0.mk (below_then HB.out HB.out.size hb1); have hsz : w.heap.size < w1.heap.size := (by have := hb1.size; simp at this; omega); clear hb1; have a1 := (blk_cell HP1.out 0).trans rfl; have a2 := (blk_cell HP1.out 1).trans rfl))
  clear e1 hmk a1 a2
  have HS0 := Aside0.mk (RS.new (n := n) HB1.out HP1.out hsz)
  obtain ⟨b, hb⟩ : ∃ b, b = w1.heap.size := ⟨_, rfl⟩
  obtain ⟨W0, hW0⟩ : ∃ W0, W0 = w1.alloc (.cells (madeCells #[.bool false] n) 4) := ⟨_, rfl⟩
  rw [← hb, ← hW0] at HS0 ⊢
  clear HP1 HB1 hsz hb hW0
  go_loopw [4] (fun i wr => ∃ r : Nat, r ≤ n ∧ i = .int .i64 r ∧ Aside0 (RS w wr b n g A1 A2 A3 c1 c2 c3 (iter (roundF (hornN g)) r (List.replicate n false)))) (fun i _ => n - (intOf i).toNat)
  case atStart => exact ⟨0, Nat.zero_le _, rfl, HS0⟩
  case round =>
    clear HS0
    obtain ⟨r, hr, rfl, HS⟩ := hrel
    by_cases hrn : r < n
    · have r1 : (r : Int) < (n : Int) := by omega
      obtain ⟨m, hm⟩ : ∃ m, m = iter (roundF (hornN g)) r (List.replicate n false) := ⟨_, rfl⟩
      rw [← hm] at HS
      have HM := Lib.hid hm
      clear hm
      go_wp2
      rename World => wo
      go_loopw [5] (fun i wi => ∃ j : Nat, j ≤ g.rules.length ∧ i = .int .i64 j ∧ Aside0 (RS w wi b n g A1 A2 A3 c1 c2 c3 (roundF ((hornN g).take j) m))) (fun i _ => g.rules.length - (intOf i).toNat)
      case atStart => exact ⟨0, Nat.zero_le _, rfl, HS⟩
      case round =>
        clear HS
        obtain ⟨j, hj, rfl, HS⟩ := hrel
        have a3 := (blk_cell HS.out.box 2).trans rfl
        by_cases hlt : j < g.rules.length
        · obtain ⟨ad, B1, d1, ead, hx0, hy0, hd1, hC1⟩ := at_rule HG0.out.rules j hlt
          cases ead
          have hx := pw_cell_below HS.out.below hx0
          have hy := pw_cell_below HS.out.below hy0
          clear hx0 hy0
          have hmem := goodF_mem HGD.out (g.rules[j]'hlt) (List.getElem_mem _)
          have HT := Lib.hid (roundF_take (R := hornN g) (m := m) (j := j) (by simpa [hornN] using hlt))
          obtain ⟨x, hx1⟩ : ∃ x, x = g.rules[j]'hlt := ⟨_, rfl⟩
          have hxh : (hornN g)[j]'(by simpa [hornN] using hlt) = (x.right, x.left) := by rw [hx1]; simp [hornN]
          rw [hxh] at HT
          rw [← hx1] at hx hy hd1 hC1 hmem
          clear hx1 hxh
          obtain ⟨lf, hlf⟩ := Int.eq_ofNat_of_zero_le (by omega : 0 ≤ x.left)
          have l1 : (0 : Int) ≤ (lf : Int) := by omega
          have l2 : (lf : Int) < (n : Int) := by rw [HN.out]; omega
          have l3 : lf < n := by omega
          rw [hlf] at hx HT
          clear hmem hlf
          obtain ⟨m1, hm1⟩ : ∃ m1, m1 = roundF ((hornN g).take j) m := ⟨_, rfl⟩
          rw [← hm1] at HS HT
          clear hm1
          have i1 : (0 : Int) ≤ (j : Int) := by omega
          have i2 : (j : Int) < (g.rules.length : Int) := by omega
          have HC2 := Aside0.mk (Kd.C_below hC1 HS.out.below)
          clear hd1 hC1
          have fz := HS.out.bb.fz lf
          obtain ⟨z, hz⟩ : ∃ z, wr.cell? ⟨b, lf, none⟩ = some (.bool z) := ⟨_, HS.out.bb.cell (by rw [HS.out.len]; exact l3)⟩
          cases hal : allF m1 x.right
          · have HE : Aside0 (roundF ((hornN g).take (j + 1)) m = m1) := ⟨by rw [HT.out, if_neg (by rw [hal]; decide)]⟩
            go_wp2_with (go_at_call 66; go_loud (refine (all06_c _ _ _ _ n m1 x.right _ HS.out.len (HS.out.bb.C' HS.out.len (by omega)) HC2.out).mono ?_; rw [hal]; rintro e w9 ⟨rfl, rfl⟩))
            go_roundw
            case rel => exact ⟨j + 1, by omega, by go_num, by rw [HE.out]; exact HS⟩
            case measure => simp [intOf]; omega
          · have HE : Aside0 (roundF ((hornN g).take (j + 1)) m = setB m1 (lf : Int)) := ⟨by rw [HT.out, if_pos hal]⟩
            have HS3 := Aside0.mk (HS.out.set lf)
            go_wp2_with (go_at_call 66; go_loud (refine (all06_c _ _ _ _ n m1 x.right _ HS.out.len (HS.out.bb.C' HS.out.len (by omega)) HC2.out).mono ?_; rw [hal]; rintro e w9 ⟨rfl, rfl⟩))
            go_roundw
            case rel => exact ⟨j + 1, by omega, by go_num, by rw [HE.out]; exact HS3⟩
            case measure => simp [intOf]; omega
        · have HE : Aside0 (roundF ((hornN g).take j) m = iter (roundF (hornN g)) (r + 1) (List.replicate n false)) := ⟨by rw [List.take_of_length_le (by simp [hornN]; omega), iter_succ, HM.out]⟩
          go_wp2
          go_roundw
          case rel => exact ⟨r + 1, by omega, by go_num, by rw [← HE.out]; exact HS⟩
          case measure => simp [intOf]; omega
    · have hrn : r = n := by omega
      have hm : iter (roundF (hornN g)) r (List.replicate n false) = nullF g := by rw [hrn, HN.out]; rfl
      rw [hm] at HS
      have hln : n = (nullF g).length := HS.out.len.symm
      have HE : Aside0 (OfNEnd w (nullF g) (.returned (.slice (some ⟨b, 0, none⟩) n n)) wr) := ⟨⟨b, by rw [← hln], HS.out.bb, by have := HS.out.size; omega⟩⟩
      subst hrn
      clear hm hln
      go_wp2
      go_ret
      exact ⟨HE.out, HS.out.below⟩
end Go.Proofs.Ytphmmppmhphgeaa

/- The contracts of the document's answers whether a row, or a rule's right side, may be nothing. -/
set_option linter.unusedVariables false
set_option linter.unusedSimpArgs false
namespace Go.Proofs.Ytphmmppmhphgeaa
open Go.RowKit Go.Proofs.YtphmmppmhphgeaaW.PrintWords Go.Proofs.YtphmmppmhphgeaaW.PrintLast

theorem good_v (g : Gram) (A1 A2 A3 : Option Addr) (c1 c2 c3 : Nat) (w : World) (hg : RepG w g A1 A2 A3 c1 c2 c3) {v : Bool} (hv : goodF g = v) :
    Calls Try.prog 23 #[.agg #[.slice A1 g.terms.length c1, .slice A2 g.names.length c2, .slice A3 g.rules.length c3]] w fun e w' => e = .returned (.bool v) ∧ Below w.heap.size w w' := by
  subst hv; exact good_c g A1 A2 A3 c1 c2 c3 w hg
theorem good1_v (g : Gram) (A1 A2 A3 : Option Addr) (c1 c2 c3 : Nat) (w : World) (hg : RepG w g A1 A2 A3 c1 c2 c3) (hz : Sized g) {v : Bool} (hv : goodF g = v) :
    Calls Try.prog 24 #[.agg #[.slice A1 g.terms.length c1, .slice A2 g.names.length c2, .slice A3 g.rules.length c3]] w fun e w' => e = .returned (.bool v) ∧ Below w.heap.size w w' := by
  subst hv; exact good1_c g A1 A2 A3 c1 c2 c3 w hg hz
def ruleR (g : Gram) (i : Int) : Bool := goodF g && ruleB g i
set_option maxRecDepth 100000 in
set_option maxHeartbeats 2000000 in
theorem allR_c (g : Gram) (A1 A2 A3 : Option Addr) (c1 c2 c3 : Nat) (B : Option Addr) (d : Nat) (l : List Int) (w : World) (hg : RepG w g A1 A2 A3 c1 c2 c3) (hz : Sized g) (hs : kInt.C w B l.length l) {v : Bool} (hv : allB g l = v) :
    Calls Try.prog 35 #[.agg #[.slice A1 g.terms.length c1, .slice A2 g.names.length c2, .slice A3 g.rules.length c3], .slice B l.length d] w fun e w' => e = .returned (.bool v) ∧ Below w.heap.size w w' := by
  have HB := Aside0.mk ((Below.refl w.heap.size w).alloc (Nat.le_refl _) (.cells #[.slice A1 g.terms.length c1, .slice A2 g.names.length c2, .slice A3 g.rules.length c3] 25 (0, 0)))
  have HG := Aside0.mk (hg.below_ (below_alloc (Below.refl _ _) (.cells #[.slice A1 g.terms.length c1, .slice A2 g.names.length c2, .slice A3 g.rules.length c3] 25 (0, 0))))
  have HP := Aside0.mk (blk_new w (.cells #[.slice A1 g.terms.length c1, .slice A2 g.names.length c2, .slice A3 g.rules.length c3] 25 (0, 0)))
  have HS := Aside0.mk hs
  have HZ := Aside0.mk hz
  have HV := Lib.hid hv
  clear hg hs hv hz
  cases hgd : goodF g
  · have HE : Aside0 (v = false) := ⟨by rw [← HV.out, allB, hgd]; rfl⟩
    have HGD := Lib.hid hgd
    clear hgd
    go_enter Try.func35, Try.ntmps35
    go_wp2_with (go_at_call 24; go_loud (refine (good1_v g A1 A2 A3 c1 c2 c3 _ HG.out HZ.out HGD.out).mono ?_; rintro e w1 ⟨rfl, hb1⟩; have HB1 := Aside0.mk (below_then HB.out HB.out.size hb1); clear hb1))
    go_ret
    exact ⟨ret_bool HE.out.symm, HB1.out⟩
  · have HE : Aside0 (allF (nullF g) l = v) := ⟨by rw [← HV.out, allB, hgd]; rfl⟩
    have HL := Lib.hid (nullF_len hgd)
    have q := goodF_small hgd
    have HM : Aside0 ((nullF g).length ≤ 100) := ⟨by rw [HL.out]; unfold nsym; omega⟩
    have HGD := Lib.hid hgd
    clear hgd
    go_enter Try.func35, Try.ntmps35
    go_wp2_with (first | (have hx := HBB; go_at_call 66; go_loud (refine (all06_c _ _ _ _ _ (nullF g) l _ rfl (HBB.out.C (by have := HM.out; omega)) (Kd.C_below HS.out HB2.out)).mono ?_; rw [HE.out]; rintro e w9 ⟨rfl, rfl⟩)) | (have hx := HB1; go_at_call 31; go_loud (refine (ofR_yes g A1 A2 A3 c1 c2 c3 _ HG1.out HZ.out HGD.out).mono ?_; rintro e w2 ⟨⟨b, rfl, hbb, hbs⟩, hb2⟩; have HB2 := Aside0.mk (below_then HB1.out HB1.out.size hb2); have HBB := Aside0.mk hbb; clear hb2 hbb hbs)) | (go_at_call 24; go_loud (refine (good1_v g A1 A2 A3 c1 c2 c3 _ HG.out HZ.out HGD.out).mono ?_; rintro e w1 ⟨rfl, hb1⟩; have HB1 := Aside0.mk (below_then HB.out HB.out.size hb1); have HG1 := Aside0.mk (HG.out.below_ hb1); have a1 := (blk_cell (blk_below HP.out hb1) 0).trans rfl; have a2 := (blk_cell (blk_below HP.out hb1) 1).trans rfl; have a3 := (blk_cell (blk_below HP.out hb1) 2).trans rfl; clear hb1)))
    go_ret
    exact ⟨rfl, HB2.out⟩
set_option maxRecDepth 100000 in
set_option maxHeartbeats 2000000 in
theorem ruleR_c (g : Gram) (A1 A2 A3 : Option Addr) (c1 c2 c3 : Nat) (i : Int) (w : World) (hg : RepG w g A1 A2 A3 c1 c2 c3) (hz : Sized g) {v : Bool} (hv : ruleB g i = v) :
    Calls Try.prog 33 #[.agg #[.slice A1 g.terms.length c1, .slice A2 g.names.length c2, .slice A3 g.rules.length c3], .int .i64 i] w fun e w' => e = .returned (.bool v) ∧ Below w.heap.size w w' := by
  obtain ⟨v0, hv0⟩ : ∃ v0 : World, v0 = w.alloc (.cells #[.slice A1 g.terms.length c1, .slice A2 g.names.length c2, .slice A3 g.rules.length c3] 25 (0, 0)) := ⟨_, rfl⟩
  have HB := Aside0.mk ((Below.refl w.heap.size w).alloc (Nat.le_refl _) (.cells #[.slice A1 g.terms.length c1, .slice A2 g.names.length c2, .slice A3 g.rules.length c3] 25 (0, 0)))
  have HG := Aside0.mk (hg.below_ (below_alloc (Below.refl _ _) (.cells #[.slice A1 g.terms.length c1, .slice A2 g.names.length c2, .slice A3 g.rules.length c3] 25 (0, 0))))
  have HP := Aside0.mk (blk_new w (.cells #[.slice A1 g.terms.length c1, .slice A2 g.names.length c2, .slice A3 g.rules.length c3] 25 (0, 0)))
  rw [← hv0] at HB HG HP
  have HV := Lib.hid hv
  have HZ := Aside0.mk hz
  clear hg hv hz
  cases hgd : goodF g
  · have HE : Aside0 (v = false) := ⟨by rw [← HV.out, ruleB, allB, hgd]; simp⟩
    have HGD := Lib.hid hgd
    clear hgd
    go_enter Try.func33, Try.ntmps33
    go_wp2
    simp only [← hv0]
    refine start_ (n := 24) (S := fun w' => Below v0.heap.size v0 w') (ds := []) (lb 24 0x0) (by kernel_rfl) rfl (by kernel_rfl) (below_drew1 (Below.refl _ _)) (fun hHeld => ?_)
    refine take_ (i := 0) (N := (some 5)) (v := ?_) (a' := ?_) (lb 24 0x1) rfl rfl (by kernel_rfl) (fun _ _ _ h => h) (Or.inl ⟨by rfl, ?_⟩) hHeld ?_ ?_
    rotate_left
    · (rintro w' hS; have d0 := (blk_cell (blk_below HP.out hS) 0).trans rfl; have d1 := (blk_cell (blk_below HP.out hS) 1).trans rfl; have d2 := (blk_cell (blk_below HP.out hS) 2).trans rfl; go_simp; with_reducible rfl)
    rotate_left
    · (simp only [Act.put, List.setIfInBounds_toArray, List.set_cons_zero, List.set_cons_succ]; rfl)
    refine one_ (i := 1) (N := (some 6)) (lb 24 0x3) rfl rfl (by kernel_rfl) (by decide) (fun K hK => ?_)
    (refine goesC_ Try.func24 (by kernel_rfl) rfl (by rfl) rfl rfl (good1_v g A1 A2 A3 c1 c2 c3 _ (HG.out.below_ hHeld) HZ.out HGD.out) (by simp [Act.eval]) ?_; rintro e w9 ⟨rfl, hb9⟩; refine ⟨_, rfl, ?_⟩; have HQ9 := Aside0.mk (below_then hHeld hHeld.size hb9); clear hb9; refine hK.out _ _ HQ9.out (fun hHeld => ?_))
    skip
    clear hK K
    refine norm_ (a' := ?_) ?_ ?_
    rotate_left
    · (show Act.put _ (some 6) _ = _; simp only [Act.put, List.setIfInBounds_toArray, List.set_cons_zero, List.set_cons_succ]; rfl)
    refine pure_ (i := 2) (N := (some 7)) (v := ?_) (a' := ?_) (lb 24 0x7) rfl rfl (by kernel_rfl) (fun _ _ _ h => h) (Or.inl ⟨by rfl, ?_⟩) ?_ ?_
    rotate_left
    · (intro w'; go_simp; with_reducible rfl)
    rotate_left
    · (simp only [Act.put, List.setIfInBounds_toArray, List.set_cons_zero, List.set_cons_succ]; rfl)
    refine pure_ (i := 3) (N := (some 8)) (v := undef) (a' := ?_) (lb 24 0xf) rfl rfl (by kernel_rfl) (fun _ _ _ h => h) (Or.inr ⟨by rfl, rfl⟩) ?_ ?_
    rotate_left
    · (simp only [Act.put, List.setIfInBounds_toArray, List.set_cons_zero, List.set_cons_succ]; rfl)
    refine pure_ (i := 4) (N := (some 9)) (v := undef) (a' := ?_) (lb 24 0x1f) rfl rfl (by kernel_rfl) (fun _ _ _ h => h) (Or.inr ⟨by rfl, rfl⟩) ?_ ?_
    rotate_left
    · (simp only [Act.put, List.setIfInBounds_toArray, List.set_cons_zero, List.set_cons_succ]; rfl)
    refine pure_ (i := 5) (N := (some 10)) (v := ?_) (a' := ?_) (lb 24 0x3f) rfl rfl (by kernel_rfl) (fun _ _ _ h => h) (Or.inl ⟨by rfl, ?_⟩) ?_ ?_
    rotate_left
    · (intro w'; go_simp; with_reducible rfl)
    rotate_left
    · (simp only [Act.put, List.setIfInBounds_toArray, List.set_cons_zero, List.set_cons_succ]; rfl)
    refine pure_ (i := 6) (N := (some 11)) (v := ?_) (a' := ?_) (lb 24 0x7f) rfl rfl (by kernel_rfl) (fun _ _ _ h => h) (Or.inl ⟨by rfl, ?_⟩) ?_ ?_
    rotate_left
    · (intro w'; go_simp; with_reducible rfl)
    rotate_left
    · (simp only [Act.put, List.setIfInBounds_toArray, List.set_cons_zero, List.set_cons_succ]; rfl)
    refine pure_ (i := 7) (N := (some 12)) (v := undef) (a' := ?_) (lb 24 0xff) rfl rfl (by kernel_rfl) (fun _ _ _ h => h) (Or.inr ⟨by rfl, rfl⟩) ?_ ?_
    rotate_left
    · (simp only [Act.put, List.setIfInBounds_toArray, List.set_cons_zero, List.set_cons_succ]; rfl)
    refine pure_ (i := 8) (N := (some 13)) (v := undef) (a' := ?_) (lb 24 0x1ff) rfl rfl (by kernel_rfl) (fun _ _ _ h => h) (Or.inr ⟨by rfl, rfl⟩) ?_ ?_
    rotate_left
    · (simp only [Act.put, List.setIfInBounds_toArray, List.set_cons_zero, List.set_cons_succ]; rfl)
    refine pure_ (i := 9) (N := (some 14)) (v := undef) (a' := ?_) (lb 24 0x3ff) rfl rfl (by kernel_rfl) (fun _ _ _ h => h) (Or.inr ⟨by rfl, rfl⟩) ?_ ?_
    rotate_left
    · (simp only [Act.put, List.setIfInBounds_toArray, List.set_cons_zero, List.set_cons_succ]; rfl)
    refine pure_ (i := 10) (N := (some 15)) (v := undef) (a' := ?_) (lb 24 0x7ff) rfl rfl (by kernel_rfl) (fun _ _ _ h => h) (Or.inr ⟨by rfl, rfl⟩) ?_ ?_
    rotate_left
    · (simp only [Act.put, List.setIfInBounds_toArray, List.set_cons_zero, List.set_cons_succ]; rfl)
    refine pure_ (i := 11) (N := (some 16)) (v := undef) (a' := ?_) (lb 24 0xfff) rfl rfl (by kernel_rfl) (fun _ _ _ h => h) (Or.inr ⟨by rfl, rfl⟩) ?_ ?_
    rotate_left
    · (simp only [Act.put, List.setIfInBounds_toArray, List.set_cons_zero, List.set_cons_succ]; rfl)
    refine pure_ (i := 12) (N := (some 17)) (v := ?_) (a' := ?_) (lb 24 0x1fff) rfl rfl (by kernel_rfl) (fun _ _ _ h => h) (Or.inl ⟨by rfl, ?_⟩) ?_ ?_
    rotate_left
    · (intro w'; go_simp; with_reducible rfl)
    rotate_left
    · (simp only [Act.put, List.setIfInBounds_toArray, List.set_cons_zero, List.set_cons_succ]; rfl)
    refine pure_ (i := 13) (N := (some 18)) (v := ?_) (a' := ?_) (lb 24 0x3fff) rfl rfl (by kernel_rfl) (fun _ _ _ h => h) (Or.inl ⟨by rfl, ?_⟩) ?_ ?_
    rotate_left
    · (intro w'; go_simp; with_reducible rfl)
    rotate_left
    · (simp only [Act.put, List.setIfInBounds_toArray, List.set_cons_zero, List.set_cons_succ]; rfl)
    refine pure_ (i := 15) (N := (some 20)) (v := undef) (a' := ?_) (lb 24 0xbfff) rfl rfl (by kernel_rfl) (fun _ _ _ h => h) (Or.inr ⟨by rfl, rfl⟩) ?_ ?_
    rotate_left
    · (simp only [Act.put, List.setIfInBounds_toArray, List.set_cons_zero, List.set_cons_succ]; rfl)
    refine pure_ (i := 17) (N := (some 22)) (v := undef) (a' := ?_) (lb 24 0x2bfff) rfl rfl (by kernel_rfl) (fun _ _ _ h => h) (Or.inr ⟨by rfl, rfl⟩) ?_ ?_
    rotate_left
    · (simp only [Act.put, List.setIfInBounds_toArray, List.set_cons_zero, List.set_cons_succ]; rfl)
    refine pure_ (i := 14) (N := (some 19)) (v := undef) (a' := ?_) (lb 24 0x2ffff) rfl rfl (by kernel_rfl) (fun _ _ _ h => h) (Or.inr ⟨by rfl, rfl⟩) ?_ ?_
    rotate_left
    · (simp only [Act.put, List.setIfInBounds_toArray, List.set_cons_zero, List.set_cons_succ]; rfl)
    refine pure_ (i := 16) (N := (some 21)) (v := undef) (a' := ?_) (lb 24 0x3ffff) rfl rfl (by kernel_rfl) (fun _ _ _ h => h) (Or.inr ⟨by rfl, rfl⟩) ?_ ?_
    rotate_left
    · (simp only [Act.put, List.setIfInBounds_toArray, List.set_cons_zero, List.set_cons_succ]; rfl)
    refine pure_ (i := 18) (N := (some 23)) (v := undef) (a' := ?_) (lb 24 0x7ffff) rfl rfl (by kernel_rfl) (fun _ _ _ h => h) (Or.inr ⟨by rfl, rfl⟩) ?_ ?_
    rotate_left
    · (simp only [Act.put, List.setIfInBounds_toArray, List.set_cons_zero, List.set_cons_succ]; rfl)
    refine pure_ (i := 19) (N := (some 24)) (v := undef) (a' := ?_) (lb 24 0xfffff) rfl rfl (by kernel_rfl) (fun _ _ _ h => h) (Or.inr ⟨by rfl, rfl⟩) ?_ ?_
    rotate_left
    · (simp only [Act.put, List.setIfInBounds_toArray, List.set_cons_zero, List.set_cons_succ]; rfl)
    refine pure_ (i := 20) (N := (some 25)) (v := undef) (a' := ?_) (lb 24 0x1fffff) rfl rfl (by kernel_rfl) (fun _ _ _ h => h) (Or.inr ⟨by rfl, rfl⟩) ?_ ?_
    rotate_left
    · (simp only [Act.put, List.setIfInBounds_toArray, List.set_cons_zero, List.set_cons_succ]; rfl)
    refine one_ (i := 21) (N := (some 26)) (lb 24 0x3fffff) rfl rfl (by kernel_rfl) (by decide) (fun K hK => ?_)
    refine off_ (by rfl) ?_
    refine hK.out _ _ hHeld (fun hHeld => ?_)
    clear hK K
    refine norm_ (a' := ?_) ?_ ?_
    rotate_left
    · (show Act.put _ (some 26) _ = _; simp only [Act.put, List.setIfInBounds_toArray, List.set_cons_zero, List.set_cons_succ]; rfl)
    refine pure_ (i := 22) (N := (some 27)) (v := ?_) (a' := ?_) (lb 24 0x7fffff) rfl rfl (by kernel_rfl) (fun _ _ _ h => h) (Or.inl ⟨by rfl, ?_⟩) ?_ ?_
    rotate_left
    · (intro w'; go_simp; with_reducible rfl)
    rotate_left
    · (simp only [Act.put, List.setIfInBounds_toArray, List.set_cons_zero, List.set_cons_succ]; rfl)
    refine pure_ (i := 23) (N := (some 4)) (v := ?_) (a' := ?_) (lb 24 0xffffff) rfl rfl (by kernel_rfl) (fun _ _ _ h => h) (Or.inl ⟨by rfl, ?_⟩) ?_ ?_
    rotate_left
    · (intro w'; go_simp; with_reducible rfl)
    rotate_left
    · (simp only [Act.put, List.setIfInBounds_toArray, List.set_cons_zero, List.set_cons_succ]; rfl)
    refine done_ (by kernel_rfl) ?_
    go_wp2
    go_ret
    exact ⟨ret_bool HE.out.symm, below_then HB.out HB.out.size hHeld⟩
  have HGD := Lib.hid hgd
  clear hgd
  by_cases h0 : 0 ≤ i
  · obtain ⟨k, rfl⟩ := Int.eq_ofNat_of_zero_le h0
    by_cases h1 : k < g.rules.length
    · have d1 : decide (0 ≤ (k : Int)) = true := by simp
      have d2 : decide ((k : Int) < (g.rules.length : Int)) = true := by simp; omega
      have i2 : (k : Int) < (g.rules.length : Int) := by omega
      obtain ⟨ad, B1, e1, ead, hx, hy, hd1, hC1⟩ := at_rule HG.out.rules k h1
      cases ead
      have HC := Aside0.mk hC1
      have HY := Aside0.mk hy
      have HE : Aside0 (allB g (g.rules[k]'h1).right = v) := ⟨by rw [← HV.out, ruleB, d1, d2]; simp [h1]⟩
      clear hx hy hC1 hd1
      obtain ⟨x, hx⟩ : ∃ x, x = (g.rules[k]'h1).right := ⟨_, rfl⟩
      rw [← hx] at HC HY HE
      clear hx
      go_enter Try.func33, Try.ntmps33
      go_wp2
      simp only [← hv0]
      refine start_ (n := 24) (S := fun w' => Below v0.heap.size v0 w') (ds := []) (lb 24 0x0) (by kernel_rfl) rfl (by kernel_rfl) (below_drew1 (Below.refl _ _)) (fun hHeld => ?_)
      refine take_ (i := 0) (N := (some 5)) (v := ?_) (a' := ?_) (lb 24 0x1) rfl rfl (by kernel_rfl) (fun _ _ _ h => h) (Or.inl ⟨by rfl, ?_⟩) hHeld ?_ ?_
      rotate_left
      · (rintro w' hS; have d0 := (blk_cell (blk_below HP.out hS) 0).trans rfl; have d1 := (blk_cell (blk_below HP.out hS) 1).trans rfl; have d2 := (blk_cell (blk_below HP.out hS) 2).trans rfl; have d3 := cell_at hS HY.out; go_simp; with_reducible rfl)
      rotate_left
      · (simp only [Act.put, List.setIfInBounds_toArray, List.set_cons_zero, List.set_cons_succ]; rfl)
      refine one_ (i := 1) (N := (some 6)) (lb 24 0x3) rfl rfl (by kernel_rfl) (by decide) (fun K hK => ?_)
      (refine goesC_ Try.func24 (by kernel_rfl) rfl (by rfl) rfl rfl (good1_v g A1 A2 (some ad) c1 c2 c3 _ (HG.out.below_ hHeld) HZ.out HGD.out) (by simp [Act.eval]) ?_; rintro e w9 ⟨rfl, hb9⟩; refine ⟨_, rfl, ?_⟩; have HQ9 := Aside0.mk (below_then hHeld hHeld.size hb9); clear hb9; refine hK.out _ _ HQ9.out (fun hHeld => ?_))
      skip
      clear hK K
      refine norm_ (a' := ?_) ?_ ?_
      rotate_left
      · (show Act.put _ (some 6) _ = _; simp only [Act.put, List.setIfInBounds_toArray, List.set_cons_zero, List.set_cons_succ]; rfl)
      refine pure_ (i := 2) (N := (some 7)) (v := ?_) (a' := ?_) (lb 24 0x7) rfl rfl (by kernel_rfl) (fun _ _ _ h => h) (Or.inl ⟨by rfl, ?_⟩) ?_ ?_
      rotate_left
      · (intro w'; go_simp; with_reducible rfl)
      rotate_left
      · (simp only [Act.put, List.setIfInBounds_toArray, List.set_cons_zero, List.set_cons_succ]; rfl)
      refine pure_ (i := 3) (N := (some 8)) (v := ?_) (a' := ?_) (lb 24 0xf) rfl rfl (by kernel_rfl) (fun _ _ _ h => h) (Or.inl ⟨by rfl, ?_⟩) ?_ ?_
      rotate_left
      · (intro w'; go_simp; with_reducible rfl)
      rotate_left
      · (simp only [Act.put, List.setIfInBounds_toArray, List.set_cons_zero, List.set_cons_succ]; rfl)
      refine pure_ (i := 4) (N := (some 9)) (v := ?_) (a' := ?_) (lb 24 0x1f) rfl rfl (by kernel_rfl) (fun _ _ _ h => h) (Or.inl ⟨by rfl, ?_⟩) ?_ ?_
      rotate_left
      · (intro w'; go_simp; with_reducible rfl)
      rotate_left
      · (simp only [Act.put, List.setIfInBounds_toArray, List.set_cons_zero, List.set_cons_succ]; rfl)
      refine pure_ (i := 5) (N := (some 10)) (v := ?_) (a' := ?_) (lb 24 0x3f) rfl rfl (by kernel_rfl) (fun _ _ _ h => h) (Or.inl ⟨by rfl, ?_⟩) ?_ ?_
      rotate_left
      · (intro w'; go_simp; with_reducible rfl)
      rotate_left
      · (simp only [Act.put, List.setIfInBounds_toArray, List.set_cons_zero, List.set_cons_succ]; rfl)
      refine pure_ (i := 6) (N := (some 11)) (v := ?_) (a' := ?_) (lb 24 0x7f) rfl rfl (by kernel_rfl) (fun _ _ _ h => h) (Or.inl ⟨by rfl, ?_⟩) ?_ ?_
      rotate_left
      · (intro w'; go_simp; with_reducible rfl)
      rotate_left
      · (simp only [Act.put, List.setIfInBounds_toArray, List.set_cons_zero, List.set_cons_succ]; rfl)
      refine pure_ (i := 7) (N := (some 12)) (v := ?_) (a' := ?_) (lb 24 0xff) rfl rfl (by kernel_rfl) (fun _ _ _ h => h) (Or.inl ⟨by rfl, ?_⟩) ?_ ?_
      rotate_left
      · (intro w'; go_simp; with_reducible rfl)
      rotate_left
      · (simp only [Act.put, List.setIfInBounds_toArray, List.set_cons_zero, List.set_cons_succ]; rfl)
      refine pure_ (i := 8) (N := (some 13)) (v := ?_) (a' := ?_) (lb 24 0x1ff) rfl rfl (by kernel_rfl) (fun _ _ _ h => h) (Or.inl ⟨by rfl, ?_⟩) ?_ ?_
      rotate_left
      · (intro w'; go_simp; with_reducible rfl)
      rotate_left
      · (simp only [Act.put, List.setIfInBounds_toArray, List.set_cons_zero, List.set_cons_succ]; rfl)
      refine take_ (i := 9) (N := (some 14)) (v := ?_) (a' := ?_) (lb 24 0x3ff) rfl rfl (by kernel_rfl) (fun _ _ _ h => h) (Or.inl ⟨by rfl, ?_⟩) hHeld ?_ ?_
      rotate_left
      · (rintro w' hS; have d0 := (blk_cell (blk_below HP.out hS) 0).trans rfl; have d1 := (blk_cell (blk_below HP.out hS) 1).trans rfl; have d2 := (blk_cell (blk_below HP.out hS) 2).trans rfl; have d3 := cell_at hS HY.out; go_simp; with_reducible rfl)
      rotate_left
      · (simp only [Act.put, List.setIfInBounds_toArray, List.set_cons_zero, List.set_cons_succ]; rfl)
      refine pure_ (i := 10) (N := (some 15)) (v := ?_) (a' := ?_) (lb 24 0x7ff) rfl rfl (by kernel_rfl) (fun _ _ _ h => h) (Or.inl ⟨by rfl, ?_⟩) ?_ ?_
      rotate_left
      · (intro w'; go_simp; with_reducible rfl)
      rotate_left
      · (simp only [Act.put, List.setIfInBounds_toArray, List.set_cons_zero, List.set_cons_succ]; rfl)
      refine pure_ (i := 11) (N := (some 16)) (v := ?_) (a' := ?_) (lb 24 0xfff) rfl rfl (by kernel_rfl) (fun _ _ _ h => h) (Or.inl ⟨by rfl, ?_⟩) ?_ ?_
      rotate_left
      · (intro w'; go_simp; with_reducible rfl)
      rotate_left
      · (simp only [Act.put, List.setIfInBounds_toArray, List.set_cons_zero, List.set_cons_succ]; rfl)
      refine pure_ (i := 12) (N := (some 17)) (v := ?_) (a' := ?_) (lb 24 0x1fff) rfl rfl (by kernel_rfl) (fun _ _ _ h => h) (Or.inl ⟨by rfl, ?_⟩) ?_ ?_
      rotate_left
      · (intro w'; go_simp; with_reducible rfl)
      rotate_left
      · (simp only [Act.put, List.setIfInBounds_toArray, List.set_cons_zero, List.set_cons_succ]; rfl)
      refine pure_ (i := 13) (N := (some 18)) (v := ?_) (a' := ?_) (lb 24 0x3fff) rfl rfl (by kernel_rfl) (fun _ _ _ h => h) (Or.inl ⟨by rfl, ?_⟩) ?_ ?_
      rotate_left
      · (intro w'; go_simp; with_reducible rfl)
      rotate_left
      · (simp only [Act.put, List.setIfInBounds_toArray, List.set_cons_zero, List.set_cons_succ]; rfl)
      refine pure_ (i := 15) (N := (some 20)) (v := ?_) (a' := ?_) (lb 24 0xbfff) rfl rfl (by kernel_rfl) (fun _ _ _ h => h) (Or.inl ⟨by rfl, ?_⟩) ?_ ?_
      rotate_left
      · (intro w'; go_simp; with_reducible rfl)
      rotate_left
      · (simp only [Act.put, List.setIfInBounds_toArray, List.set_cons_zero, List.set_cons_succ]; rfl)
      refine pure_ (i := 17) (N := (some 22)) (v := ?_) (a' := ?_) (lb 24 0x2bfff) rfl rfl (by kernel_rfl) (fun _ _ _ h => h) (Or.inl ⟨by rfl, ?_⟩) ?_ ?_
      rotate_left
      · (intro w'; go_simp; with_reducible rfl)
      rotate_left
      · (simp only [Act.put, List.setIfInBounds_toArray, List.set_cons_zero, List.set_cons_succ]; rfl)
      refine take_ (i := 14) (N := (some 19)) (v := ?_) (a' := ?_) (lb 24 0x2ffff) rfl rfl (by kernel_rfl) (fun _ _ _ h => h) (Or.inl ⟨by rfl, ?_⟩) hHeld ?_ ?_
      rotate_left
      · (rintro w' hS; have d0 := (blk_cell (blk_below HP.out hS) 0).trans rfl; have d1 := (blk_cell (blk_below HP.out hS) 1).trans rfl; have d2 := (blk_cell (blk_below HP.out hS) 2).trans rfl; have d3 := cell_at hS HY.out; go_simp; with_reducible rfl)
      rotate_left
      · (simp only [Act.put, List.setIfInBounds_toArray, List.set_cons_zero, List.set_cons_succ]; rfl)
      refine take_ (i := 16) (N := (some 21)) (v := ?_) (a' := ?_) (lb 24 0x3ffff) rfl rfl (by kernel_rfl) (fun _ _ _ h => h) (Or.inl ⟨by rfl, ?_⟩) hHeld ?_ ?_
      rotate_left
      · (rintro w' hS; have d0 := (blk_cell (blk_below HP.out hS) 0).trans rfl; have d1 := (blk_cell (blk_below HP.out hS) 1).trans rfl; have d2 := (blk_cell (blk_below HP.out hS) 2).trans rfl; have d3 := cell_at hS HY.out; go_simp; with_reducible rfl)
      rotate_left
      · (simp only [Act.put, List.setIfInBounds_toArray, List.set_cons_zero, List.set_cons_succ]; rfl)
      refine pure_ (i := 18) (N := (some 23)) (v := ?_) (a' := ?_) (lb 24 0x7ffff) rfl rfl (by kernel_rfl) (fun _ _ _ h => h) (Or.inl ⟨by rfl, ?_⟩) ?_ ?_
      rotate_left
      · (intro w'; go_simp; with_reducible rfl)
      rotate_left
      · (simp only [Act.put, List.setIfInBounds_toArray, List.set_cons_zero, List.set_cons_succ]; rfl)
      refine pure_ (i := 19) (N := (some 24)) (v := ?_) (a' := ?_) (lb 24 0xfffff) rfl rfl (by kernel_rfl) (fun _ _ _ h => h) (Or.inl ⟨by rfl, ?_⟩) ?_ ?_
      rotate_left
      · (intro w'; go_simp; with_reducible rfl)
      rotate_left
      · (simp only [Act.put, List.setIfInBounds_toArray, List.set_cons_zero, List.set_cons_succ]; rfl)
      refine take_ (i := 20) (N := (some 25)) (v := ?_) (a' := ?_) (lb 24 0x1fffff) rfl rfl (by kernel_rfl) (fun _ _ _ h => h) (Or.inl ⟨by rfl, ?_⟩) hHeld ?_ ?_
      rotate_left
      · (rintro w' hS; have d0 := (blk_cell (blk_below HP.out hS) 0).trans rfl; have d1 := (blk_cell (blk_below HP.out hS) 1).trans rfl; have d2 := (blk_cell (blk_below HP.out hS) 2).trans rfl; have d3 := cell_at hS HY.out; go_simp; with_reducible rfl)
      rotate_left
      · (simp only [Act.put, List.setIfInBounds_toArray, List.set_cons_zero, List.set_cons_succ]; rfl)
      refine one_ (i := 21) (N := (some 26)) (lb 24 0x3fffff) rfl rfl (by kernel_rfl) (by decide) (fun K hK => ?_)
      (refine goesC_ Try.func35 (by kernel_rfl) rfl (by rfl) rfl rfl (allR_c g A1 A2 (some ad) c1 c2 c3 B1 e1 x _ (HG.out.below_ hHeld) HZ.out (Kd.C_below HC.out hHeld) HE.out) (by simp [Act.eval]) ?_; rintro e w9 ⟨rfl, hb9⟩; refine ⟨_, rfl, ?_⟩; have HQ9 := Aside0.mk (below_then hHeld hHeld.size hb9); clear hb9; refine hK.out _ _ HQ9.out (fun hHeld => ?_))
      skip
      clear hK K
      refine norm_ (a' := ?_) ?_ ?_
      rotate_left
      · (show Act.put _ (some 26) _ = _; simp only [Act.put, List.setIfInBounds_toArray, List.set_cons_zero, List.set_cons_succ]; rfl)
      refine pure_ (i := 22) (N := (some 27)) (v := ?_) (a' := ?_) (lb 24 0x7fffff) rfl rfl (by kernel_rfl) (fun _ _ _ h => h) (Or.inl ⟨by rfl, ?_⟩) ?_ ?_
      rotate_left
      · (intro w'; go_simp; with_reducible rfl)
      rotate_left
      · (simp only [Act.put, List.setIfInBounds_toArray, List.set_cons_zero, List.set_cons_succ]; rfl)
      refine pure_ (i := 23) (N := (some 4)) (v := ?_) (a' := ?_) (lb 24 0xffffff) rfl rfl (by kernel_rfl) (fun _ _ _ h => h) (Or.inl ⟨by rfl, ?_⟩) ?_ ?_
      rotate_left
      · (intro w'; go_simp; with_reducible rfl)
      rotate_left
      · (simp only [Act.put, List.setIfInBounds_toArray, List.set_cons_zero, List.set_cons_succ]; rfl)
      refine done_ (by kernel_rfl) ?_
      go_wp2
      go_ret
      exact ⟨rfl, below_then HB.out HB.out.size hHeld⟩
    · have d1 : decide (0 ≤ (k : Int)) = true := by simp
      have d2 : decide ((k : Int) < (g.rules.length : Int)) = false := by simp; omega
      have i2 : ¬ (k : Int) < (g.rules.length : Int) := by omega
      have HE : Aside0 (v = false) := ⟨by rw [← HV.out, ruleB, d1, d2]; simp⟩
      go_enter Try.func33, Try.ntmps33
      go_wp2
      simp only [← hv0]
      refine start_ (n := 24) (S := fun w' => Below v0.heap.size v0 w') (ds := []) (lb 24 0x0) (by kernel_rfl) rfl (by kernel_rfl) (below_drew1 (Below.refl _ _)) (fun hHeld => ?_)
      refine take_ (i := 0) (N := (some 5)) (v := ?_) (a' := ?_) (lb 24 0x1) rfl rfl (by kernel_rfl) (fun _ _ _ h => h) (Or.inl ⟨by rfl, ?_⟩) hHeld ?_ ?_
      rotate_left
      · (rintro w' hS; have d0 := (blk_cell (blk_below HP.out hS) 0).trans rfl; have d1 := (blk_cell (blk_below HP.out hS) 1).trans rfl; have d2 := (blk_cell (blk_below HP.out hS) 2).trans rfl; go_simp; with_reducible rfl)
      rotate_left
      · (simp only [Act.put, List.setIfInBounds_toArray, List.set_cons_zero, List.set_cons_succ]; rfl)
      refine one_ (i := 1) (N := (some 6)) (lb 24 0x3) rfl rfl (by kernel_rfl) (by decide) (fun K hK => ?_)
      (refine goesC_ Try.func24 (by kernel_rfl) rfl (by rfl) rfl rfl (good1_v g A1 A2 A3 c1 c2 c3 _ (HG.out.below_ hHeld) HZ.out HGD.out) (by simp [Act.eval]) ?_; rintro e w9 ⟨rfl, hb9⟩; refine ⟨_, rfl, ?_⟩; have HQ9 := Aside0.mk (below_then hHeld hHeld.size hb9); clear hb9; refine hK.out _ _ HQ9.out (fun hHeld => ?_))
      skip
      clear hK K
      refine norm_ (a' := ?_) ?_ ?_
      rotate_left
      · (show Act.put _ (some 6) _ = _; simp only [Act.put, List.setIfInBounds_toArray, List.set_cons_zero, List.set_cons_succ]; rfl)
      refine pure_ (i := 2) (N := (some 7)) (v := ?_) (a' := ?_) (lb 24 0x7) rfl rfl (by kernel_rfl) (fun _ _ _ h => h) (Or.inl ⟨by rfl, ?_⟩) ?_ ?_
      rotate_left
      · (intro w'; go_simp; with_reducible rfl)
      rotate_left
      · (simp only [Act.put, List.setIfInBounds_toArray, List.set_cons_zero, List.set_cons_succ]; rfl)
      refine pure_ (i := 3) (N := (some 8)) (v := ?_) (a' := ?_) (lb 24 0xf) rfl rfl (by kernel_rfl) (fun _ _ _ h => h) (Or.inl ⟨by rfl, ?_⟩) ?_ ?_
      rotate_left
      · (intro w'; go_simp; with_reducible rfl)
      rotate_left
      · (simp only [Act.put, List.setIfInBounds_toArray, List.set_cons_zero, List.set_cons_succ]; rfl)
      refine pure_ (i := 4) (N := (some 9)) (v := ?_) (a' := ?_) (lb 24 0x1f) rfl rfl (by kernel_rfl) (fun _ _ _ h => h) (Or.inl ⟨by rfl, ?_⟩) ?_ ?_
      rotate_left
      · (intro w'; go_simp; with_reducible rfl)
      rotate_left
      · (simp only [Act.put, List.setIfInBounds_toArray, List.set_cons_zero, List.set_cons_succ]; rfl)
      refine pure_ (i := 5) (N := (some 10)) (v := ?_) (a' := ?_) (lb 24 0x3f) rfl rfl (by kernel_rfl) (fun _ _ _ h => h) (Or.inl ⟨by rfl, ?_⟩) ?_ ?_
      rotate_left
      · (intro w'; go_simp; with_reducible rfl)
      rotate_left
      · (simp only [Act.put, List.setIfInBounds_toArray, List.set_cons_zero, List.set_cons_succ]; rfl)
      refine pure_ (i := 6) (N := (some 11)) (v := ?_) (a' := ?_) (lb 24 0x7f) rfl rfl (by kernel_rfl) (fun _ _ _ h => h) (Or.inl ⟨by rfl, ?_⟩) ?_ ?_
      rotate_left
      · (intro w'; go_simp; with_reducible rfl)
      rotate_left
      · (simp only [Act.put, List.setIfInBounds_toArray, List.set_cons_zero, List.set_cons_succ]; rfl)
      refine pure_ (i := 7) (N := (some 12)) (v := ?_) (a' := ?_) (lb 24 0xff) rfl rfl (by kernel_rfl) (fun _ _ _ h => h) (Or.inl ⟨by rfl, ?_⟩) ?_ ?_
      rotate_left
      · (intro w'; go_simp; with_reducible rfl)
      rotate_left
      · (simp only [Act.put, List.setIfInBounds_toArray, List.set_cons_zero, List.set_cons_succ]; rfl)
      refine pure_ (i := 8) (N := (some 13)) (v := ?_) (a' := ?_) (lb 24 0x1ff) rfl rfl (by kernel_rfl) (fun _ _ _ h => h) (Or.inl ⟨by rfl, ?_⟩) ?_ ?_
      rotate_left
      · (intro w'; go_simp; with_reducible rfl)
      rotate_left
      · (simp only [Act.put, List.setIfInBounds_toArray, List.set_cons_zero, List.set_cons_succ]; rfl)
      refine take_ (i := 9) (N := (some 14)) (v := ?_) (a' := ?_) (lb 24 0x3ff) rfl rfl (by kernel_rfl) (fun _ _ _ h => h) (Or.inl ⟨by rfl, ?_⟩) hHeld ?_ ?_
      rotate_left
      · (rintro w' hS; have d0 := (blk_cell (blk_below HP.out hS) 0).trans rfl; have d1 := (blk_cell (blk_below HP.out hS) 1).trans rfl; have d2 := (blk_cell (blk_below HP.out hS) 2).trans rfl; go_simp; with_reducible rfl)
      rotate_left
      · (simp only [Act.put, List.setIfInBounds_toArray, List.set_cons_zero, List.set_cons_succ]; rfl)
      refine pure_ (i := 10) (N := (some 15)) (v := ?_) (a' := ?_) (lb 24 0x7ff) rfl rfl (by kernel_rfl) (fun _ _ _ h => h) (Or.inl ⟨by rfl, ?_⟩) ?_ ?_
      rotate_left
      · (intro w'; go_simp; with_reducible rfl)
      rotate_left
      · (simp only [Act.put, List.setIfInBounds_toArray, List.set_cons_zero, List.set_cons_succ]; rfl)
      refine pure_ (i := 11) (N := (some 16)) (v := ?_) (a' := ?_) (lb 24 0xfff) rfl rfl (by kernel_rfl) (fun _ _ _ h => h) (Or.inl ⟨by rfl, ?_⟩) ?_ ?_
      rotate_left
      · (intro w'; go_simp; with_reducible rfl)
      rotate_left
      · (simp only [Act.put, List.setIfInBounds_toArray, List.set_cons_zero, List.set_cons_succ]; rfl)
      refine pure_ (i := 12) (N := (some 17)) (v := ?_) (a' := ?_) (lb 24 0x1fff) rfl rfl (by kernel_rfl) (fun _ _ _ h => h) (Or.inl ⟨by rfl, ?_⟩) ?_ ?_
      rotate_left
      · (intro w'; go_simp; with_reducible rfl)
      rotate_left
      · (simp only [Act.put, List.setIfInBounds_toArray, List.set_cons_zero, List.set_cons_succ]; rfl)
      refine pure_ (i := 13) (N := (some 18)) (v := ?_) (a' := ?_) (lb 24 0x3fff) rfl rfl (by kernel_rfl) (fun _ _ _ h => h) (Or.inl ⟨by rfl, ?_⟩) ?_ ?_
      rotate_left
      · (intro w'; go_simp; with_reducible rfl)
      rotate_left
      · (simp only [Act.put, List.setIfInBounds_toArray, List.set_cons_zero, List.set_cons_succ]; rfl)
      refine pure_ (i := 15) (N := (some 20)) (v := undef) (a' := ?_) (lb 24 0xbfff) rfl rfl (by kernel_rfl) (fun _ _ _ h => h) (Or.inr ⟨by rfl, rfl⟩) ?_ ?_
      rotate_left
      · (simp only [Act.put, List.setIfInBounds_toArray, List.set_cons_zero, List.set_cons_succ]; rfl)
      refine pure_ (i := 17) (N := (some 22)) (v := undef) (a' := ?_) (lb 24 0x2bfff) rfl rfl (by kernel_rfl) (fun _ _ _ h => h) (Or.inr ⟨by rfl, rfl⟩) ?_ ?_
      rotate_left
      · (simp only [Act.put, List.setIfInBounds_toArray, List.set_cons_zero, List.set_cons_succ]; rfl)
      refine pure_ (i := 14) (N := (some 19)) (v := undef) (a' := ?_) (lb 24 0x2ffff) rfl rfl (by kernel_rfl) (fun _ _ _ h => h) (Or.inr ⟨by rfl, rfl⟩) ?_ ?_
      rotate_left
      · (simp only [Act.put, List.setIfInBounds_toArray, List.set_cons_zero, List.set_cons_succ]; rfl)
      refine pure_ (i := 16) (N := (some 21)) (v := undef) (a' := ?_) (lb 24 0x3ffff) rfl rfl (by kernel_rfl) (fun _ _ _ h => h) (Or.inr ⟨by rfl, rfl⟩) ?_ ?_
      rotate_left
      · (simp only [Act.put, List.setIfInBounds_toArray, List.set_cons_zero, List.set_cons_succ]; rfl)
      refine pure_ (i := 18) (N := (some 23)) (v := undef) (a' := ?_) (lb 24 0x7ffff) rfl rfl (by kernel_rfl) (fun _ _ _ h => h) (Or.inr ⟨by rfl, rfl⟩) ?_ ?_
      rotate_left
      · (simp only [Act.put, List.setIfInBounds_toArray, List.set_cons_zero, List.set_cons_succ]; rfl)
      refine pure_ (i := 19) (N := (some 24)) (v := undef) (a' := ?_) (lb 24 0xfffff) rfl rfl (by kernel_rfl) (fun _ _ _ h => h) (Or.inr ⟨by rfl, rfl⟩) ?_ ?_
      rotate_left
      · (simp only [Act.put, List.setIfInBounds_toArray, List.set_cons_zero, List.set_cons_succ]; rfl)
      refine pure_ (i := 20) (N := (some 25)) (v := undef) (a' := ?_) (lb 24 0x1fffff) rfl rfl (by kernel_rfl) (fun _ _ _ h => h) (Or.inr ⟨by rfl, rfl⟩) ?_ ?_
      rotate_left
      · (simp only [Act.put, List.setIfInBounds_toArray, List.set_cons_zero, List.set_cons_succ]; rfl)
      refine one_ (i := 21) (N := (some 26)) (lb 24 0x3fffff) rfl rfl (by kernel_rfl) (by decide) (fun K hK => ?_)
      refine off_ (by rfl) ?_
      refine hK.out _ _ hHeld (fun hHeld => ?_)
      clear hK K
      refine norm_ (a' := ?_) ?_ ?_
      rotate_left
      · (show Act.put _ (some 26) _ = _; simp only [Act.put, List.setIfInBounds_toArray, List.set_cons_zero, List.set_cons_succ]; rfl)
      refine pure_ (i := 22) (N := (some 27)) (v := ?_) (a' := ?_) (lb 24 0x7fffff) rfl rfl (by kernel_rfl) (fun _ _ _ h => h) (Or.inl ⟨by rfl, ?_⟩) ?_ ?_
      rotate_left
      · (intro w'; go_simp; with_reducible rfl)
      rotate_left
      · (simp only [Act.put, List.setIfInBounds_toArray, List.set_cons_zero, List.set_cons_succ]; rfl)
      refine pure_ (i := 23) (N := (some 4)) (v := ?_) (a' := ?_) (lb 24 0xffffff) rfl rfl (by kernel_rfl) (fun _ _ _ h => h) (Or.inl ⟨by rfl, ?_⟩) ?_ ?_
      rotate_left
      · (intro w'; go_simp; with_reducible rfl)
      rotate_left
      · (simp only [Act.put, List.setIfInBounds_toArray, List.set_cons_zero, List.set_cons_succ]; rfl)
      refine done_ (by kernel_rfl) ?_
      go_wp2
      go_ret
      exact ⟨ret_bool HE.out.symm, below_then HB.out HB.out.size hHeld⟩
  · have d1 : decide (0 ≤ i) = false := by simp; omega
    have HE : Aside0 (v = false) := ⟨by rw [← HV.out, ruleB, d1]; simp⟩
    go_enter Try.func33, Try.ntmps33
    go_wp2
    simp only [← hv0]
    refine start_ (n := 24) (S := fun w' => Below v0.heap.size v0 w') (ds := []) (lb 24 0x0) (by kernel_rfl) rfl (by kernel_rfl) (below_drew1 (Below.refl _ _)) (fun hHeld => ?_)
    refine take_ (i := 0) (N := (some 5)) (v := ?_) (a' := ?_) (lb 24 0x1) rfl rfl (by kernel_rfl) (fun _ _ _ h => h) (Or.inl ⟨by rfl, ?_⟩) hHeld ?_ ?_
    rotate_left
    · (rintro w' hS; have d0 := (blk_cell (blk_below HP.out hS) 0).trans rfl; have d1 := (blk_cell (blk_below HP.out hS) 1).trans rfl; have d2 := (blk_cell (blk_below HP.out hS) 2).trans rfl; go_simp; with_reducible rfl)
    rotate_left
    · (simp only [Act.put, List.setIfInBounds_toArray, List.set_cons_zero, List.set_cons_succ]; rfl)
    refine one_ (i := 1) (N := (some 6)) (lb 24 0x3) rfl rfl (by kernel_rfl) (by decide) (fun K hK => ?_)
    (refine goesC_ Try.func24 (by kernel_rfl) rfl (by rfl) rfl rfl (good1_v g A1 A2 A3 c1 c2 c3 _ (HG.out.below_ hHeld) HZ.out HGD.out) (by simp [Act.eval]) ?_; rintro e w9 ⟨rfl, hb9⟩; refine ⟨_, rfl, ?_⟩; have HQ9 := Aside0.mk (below_then hHeld hHeld.size hb9); clear hb9; refine hK.out _ _ HQ9.out (fun hHeld => ?_))
    skip
    clear hK K
    refine norm_ (a' := ?_) ?_ ?_
    rotate_left
    · (show Act.put _ (some 6) _ = _; simp only [Act.put, List.setIfInBounds_toArray, List.set_cons_zero, List.set_cons_succ]; rfl)
    refine pure_ (i := 2) (N := (some 7)) (v := ?_) (a' := ?_) (lb 24 0x7) rfl rfl (by kernel_rfl) (fun _ _ _ h => h) (Or.inl ⟨by rfl, ?_⟩) ?_ ?_
    rotate_left
    · (intro w'; go_simp; with_reducible rfl)
    rotate_left
    · (simp only [Act.put, List.setIfInBounds_toArray, List.set_cons_zero, List.set_cons_succ]; rfl)
    refine pure_ (i := 3) (N := (some 8)) (v := ?_) (a' := ?_) (lb 24 0xf) rfl rfl (by kernel_rfl) (fun _ _ _ h => h) (Or.inl ⟨by rfl, ?_⟩) ?_ ?_
    rotate_left
    · (intro w'; go_simp; with_reducible rfl)
    rotate_left
    · (simp only [Act.put, List.setIfInBounds_toArray, List.set_cons_zero, List.set_cons_succ]; rfl)
    refine pure_ (i := 4) (N := (some 9)) (v := ?_) (a' := ?_) (lb 24 0x1f) rfl rfl (by kernel_rfl) (fun _ _ _ h => h) (Or.inl ⟨by rfl, ?_⟩) ?_ ?_
    rotate_left
    · (intro w'; go_simp; with_reducible rfl)
    rotate_left
    · (simp only [Act.put, List.setIfInBounds_toArray, List.set_cons_zero, List.set_cons_succ]; rfl)
    refine pure_ (i := 5) (N := (some 10)) (v := ?_) (a' := ?_) (lb 24 0x3f) rfl rfl (by kernel_rfl) (fun _ _ _ h => h) (Or.inl ⟨by rfl, ?_⟩) ?_ ?_
    rotate_left
    · (intro w'; go_simp; with_reducible rfl)
    rotate_left
    · (simp only [Act.put, List.setIfInBounds_toArray, List.set_cons_zero, List.set_cons_succ]; rfl)
    refine pure_ (i := 6) (N := (some 11)) (v := ?_) (a' := ?_) (lb 24 0x7f) rfl rfl (by kernel_rfl) (fun _ _ _ h => h) (Or.inl ⟨by rfl, ?_⟩) ?_ ?_
    rotate_left
    · (intro w'; go_simp; with_reducible rfl)
    rotate_left
    · (simp only [Act.put, List.setIfInBounds_toArray, List.set_cons_zero, List.set_cons_succ]; rfl)
    refine pure_ (i := 7) (N := (some 12)) (v := undef) (a' := ?_) (lb 24 0xff) rfl rfl (by kernel_rfl) (fun _ _ _ h => h) (Or.inr ⟨by rfl, rfl⟩) ?_ ?_
    rotate_left
    · (simp only [Act.put, List.setIfInBounds_toArray, List.set_cons_zero, List.set_cons_succ]; rfl)
    refine pure_ (i := 8) (N := (some 13)) (v := undef) (a' := ?_) (lb 24 0x1ff) rfl rfl (by kernel_rfl) (fun _ _ _ h => h) (Or.inr ⟨by rfl, rfl⟩) ?_ ?_
    rotate_left
    · (simp only [Act.put, List.setIfInBounds_toArray, List.set_cons_zero, List.set_cons_succ]; rfl)
    refine pure_ (i := 9) (N := (some 14)) (v := undef) (a' := ?_) (lb 24 0x3ff) rfl rfl (by kernel_rfl) (fun _ _ _ h => h) (Or.inr ⟨by rfl, rfl⟩) ?_ ?_
    rotate_left
    · (simp only [Act.put, List.setIfInBounds_toArray, List.set_cons_zero, List.set_cons_succ]; rfl)
    refine pure_ (i := 10) (N := (some 15)) (v := undef) (a' := ?_) (lb 24 0x7ff) rfl rfl (by kernel_rfl) (fun _ _ _ h => h) (Or.inr ⟨by rfl, rfl⟩) ?_ ?_
    rotate_left
    · (simp only [Act.put, List.setIfInBounds_toArray, List.set_cons_zero, List.set_cons_succ]; rfl)
    refine pure_ (i := 11) (N := (some 16)) (v := undef) (a' := ?_) (lb 24 0xfff) rfl rfl (by kernel_rfl) (fun _ _ _ h => h) (Or.inr ⟨by rfl, rfl⟩) ?_ ?_
    rotate_left
    · (simp only [Act.put, List.setIfInBounds_toArray, List.set_cons_zero, List.set_cons_succ]; rfl)
    refine pure_ (i := 12) (N := (some 17)) (v := ?_) (a' := ?_) (lb 24 0x1fff) rfl rfl (by kernel_rfl) (fun _ _ _ h => h) (Or.inl ⟨by rfl, ?_⟩) ?_ ?_
    rotate_left
    · (intro w'; go_simp; with_reducible rfl)
    rotate_left
    · (simp only [Act.put, List.setIfInBounds_toArray, List.set_cons_zero, List.set_cons_succ]; rfl)
    refine pure_ (i := 13) (N := (some 18)) (v := ?_) (a' := ?_) (lb 24 0x3fff) rfl rfl (by kernel_rfl) (fun _ _ _ h => h) (Or.inl ⟨by rfl, ?_⟩) ?_ ?_
    rotate_left
    · (intro w'; go_simp; with_reducible rfl)
    rotate_left
    · (simp only [Act.put, List.setIfInBounds_toArray, List.set_cons_zero, List.set_cons_succ]; rfl)
    refine pure_ (i := 15) (N := (some 20)) (v := undef) (a' := ?_) (lb 24 0xbfff) rfl rfl (by kernel_rfl) (fun _ _ _ h => h) (Or.inr ⟨by rfl, rfl⟩) ?_ ?_
    rotate_left
    · (simp only [Act.put, List.setIfInBounds_toArray, List.set_cons_zero, List.set_cons_succ]; rfl)
    refine pure_ (i := 17) (N := (some 22)) (v := undef) (a' := ?_) (lb 24 0x2bfff) rfl rfl (by kernel_rfl) (fun _ _ _ h => h) (Or.inr ⟨by rfl, rfl⟩) ?_ ?_
    rotate_left
    · (simp only [Act.put, List.setIfInBounds_toArray, List.set_cons_zero, List.set_cons_succ]; rfl)
    refine pure_ (i := 14) (N := (some 19)) (v := undef) (a' := ?_) (lb 24 0x2ffff) rfl rfl (by kernel_rfl) (fun _ _ _ h => h) (Or.inr ⟨by rfl, rfl⟩) ?_ ?_
    rotate_left
    · (simp only [Act.put, List.setIfInBounds_toArray, List.set_cons_zero, List.set_cons_succ]; rfl)
    refine pure_ (i := 16) (N := (some 21)) (v := undef) (a' := ?_) (lb 24 0x3ffff) rfl rfl (by kernel_rfl) (fun _ _ _ h => h) (Or.inr ⟨by rfl, rfl⟩) ?_ ?_
    rotate_left
    · (simp only [Act.put, List.setIfInBounds_toArray, List.set_cons_zero, List.set_cons_succ]; rfl)
    refine pure_ (i := 18) (N := (some 23)) (v := undef) (a' := ?_) (lb 24 0x7ffff) rfl rfl (by kernel_rfl) (fun _ _ _ h => h) (Or.inr ⟨by rfl, rfl⟩) ?_ ?_
    rotate_left
    · (simp only [Act.put, List.setIfInBounds_toArray, List.set_cons_zero, List.set_cons_succ]; rfl)
    refine pure_ (i := 19) (N := (some 24)) (v := undef) (a' := ?_) (lb 24 0xfffff) rfl rfl (by kernel_rfl) (fun _ _ _ h => h) (Or.inr ⟨by rfl, rfl⟩) ?_ ?_
    rotate_left
    · (simp only [Act.put, List.setIfInBounds_toArray, List.set_cons_zero, List.set_cons_succ]; rfl)
    refine pure_ (i := 20) (N := (some 25)) (v := undef) (a' := ?_) (lb 24 0x1fffff) rfl rfl (by kernel_rfl) (fun _ _ _ h => h) (Or.inr ⟨by rfl, rfl⟩) ?_ ?_
    rotate_left
    · (simp only [Act.put, List.setIfInBounds_toArray, List.set_cons_zero, List.set_cons_succ]; rfl)
    refine one_ (i := 21) (N := (some 26)) (lb 24 0x3fffff) rfl rfl (by kernel_rfl) (by decide) (fun K hK => ?_)
    refine off_ (by rfl) ?_
    refine hK.out _ _ hHeld (fun hHeld => ?_)
    clear hK K
    refine norm_ (a' := ?_) ?_ ?_
    rotate_left
    · (show Act.put _ (some 26) _ = _; simp only [Act.put, List.setIfInBounds_toArray, List.set_cons_zero, List.set_cons_succ]; rfl)
    refine pure_ (i := 22) (N := (some 27)) (v := ?_) (a' := ?_) (lb 24 0x7fffff) rfl rfl (by kernel_rfl) (fun _ _ _ h => h) (Or.inl ⟨by rfl, ?_⟩) ?_ ?_
    rotate_left
    · (intro w'; go_simp; with_reducible rfl)
    rotate_left
    · (simp only [Act.put, List.setIfInBounds_toArray, List.set_cons_zero, List.set_cons_succ]; rfl)
    refine pure_ (i := 23) (N := (some 4)) (v := ?_) (a' := ?_) (lb 24 0xffffff) rfl rfl (by kernel_rfl) (fun _ _ _ h => h) (Or.inl ⟨by rfl, ?_⟩) ?_ ?_
    rotate_left
    · (intro w'; go_simp; with_reducible rfl)
    rotate_left
    · (simp only [Act.put, List.setIfInBounds_toArray, List.set_cons_zero, List.set_cons_succ]; rfl)
    refine done_ (by kernel_rfl) ?_
    go_wp2
    go_ret
    exact ⟨ret_bool HE.out.symm, below_then HB.out HB.out.size hHeld⟩
end Go.Proofs.Ytphmmppmhphgeaa

/- What the wakes read: kernel computations. -/
set_option linter.unusedVariables false
set_option linter.unusedSimpArgs false
namespace Go.Proofs.Ytphmmppmhphgeaa
open Go.RowKit Go.Proofs.YtphmmppmhphgeaaW.PrintWords

def wakeS : ByteArray := ⟨#[83, 32, 61, 32, 39, 97, 39, 32, 83, 32, 124, 32, 65, 32, 59, 32, 65, 32, 61, 32, 39, 98, 39, 32, 39, 97, 39, 32, 59]⟩
def wakeG : Gram := ⟨[⟨#[97]⟩, ⟨#[98]⟩], [⟨#[83]⟩, ⟨#[65]⟩], [⟨2, [0, 2]⟩, ⟨2, [3]⟩, ⟨3, [1, 0]⟩]⟩
theorem wake_of : ofF wakeS = .ok wakeG := by kernel_rfl
theorem wake_of2 : ofF ⟨#[83, 32, 61, 32, 66, 32, 59]⟩ = .error (13, 4) := by kernel_rfl
theorem wake_of3 : ofF ⟨#[83, 32, 61, 32, 39, 97, 39]⟩ = .error (12, 7) := by kernel_rfl
theorem wake_good : goodF wakeG = true := by kernel_rfl
theorem wake_name : nameF wakeG 3 = some ⟨#[65]⟩ := by kernel_rfl
end Go.Proofs.Ytphmmppmhphgeaa

/- The wakes of law 03: they answer true. -/
set_option linter.unusedVariables false
set_option linter.unusedSimpArgs false
namespace Go.Proofs.Ytphmmppmhphgeaa
open Go.RowKit Go.Proofs.YtphmmppmhphgeaaW.PrintWords

/-- What the wakes have read so far lies where it was. -/
structure WK (w : World) (b1 b2 b3 : Nat) (a1 a2 a3 : Addr) (c1 c2 c3 : Nat) : Prop where
  g : RepG w wakeG (some a1) (some a2) (some a3) c1 c2 c3
  p1 : w.heap[b1]? = some (.cells #[.slice (some a1) 2 c1, .slice (some a2) 2 c2, .slice (some a3) 3 c3] 25 (0, 0))
  q1 : w.heap[b1 + 1]? = some (.cells #[.int .i64 0, .int .i64 0] 30 (0, 0))
  q2 : w.heap[b2 + 1]? = some (.cells #[.int .i64 13, .int .i64 4] 30 (0, 0))
  q3 : w.heap[b3 + 1]? = some (.cells #[.int .i64 12, .int .i64 7] 30 (0, 0))
theorem WK.below_ {w w1 : World} {b1 b2 b3 : Nat} {a1 a2 a3 : Addr} {c1 c2 c3 : Nat} (h : WK w b1 b2 b3 a1 a2 a3 c1 c2 c3) (hb : Below w.heap.size w w1) : WK w1 b1 b2 b3 a1 a2 a3 c1 c2 c3 :=
  ⟨h.g.below_ hb, blk_below h.p1 hb, blk_below h.q1 hb, blk_below h.q2 hb, blk_below h.q3 hb⟩
theorem WK.reads {w : World} {b1 b2 b3 : Nat} {a1 a2 a3 : Addr} {c1 c2 c3 : Nat} (h : WK w b1 b2 b3 a1 a2 a3 c1 c2 c3) : ∃ B0 d0 B1 d1 B2 d2,
    w.cell? ⟨b1, 0, none⟩ = some (.slice (some a1) 2 c1) ∧ w.cell? ⟨b1, 1, none⟩ = some (.slice (some a2) 2 c2) ∧ w.cell? ⟨b1, 2, none⟩ = some (.slice (some a3) 3 c3) ∧ w.cell? ⟨b1 + 1, 0, none⟩ = some (.int .i64 0) ∧
    w.cell? ⟨b2 + 1, 0, none⟩ = some (.int .i64 13) ∧ w.cell? ⟨b2 + 1, 1, none⟩ = some (.int .i64 4) ∧ w.cell? ⟨b3 + 1, 0, none⟩ = some (.int .i64 12) ∧ w.cell? ⟨b3 + 1, 1, none⟩ = some (.int .i64 7) ∧
    w.cell? a1 = some (.string ⟨#[97]⟩) ∧ w.cell? ⟨a2.block, a2.off + 1, none⟩ = some (.string ⟨#[65]⟩) ∧
    w.cell? ⟨a3.block, a3.off + 1, none⟩ = some (.slice B0 2 d0) ∧ kInt.C w B0 2 [0, 2] ∧
    w.cell? ⟨a3.block, a3.off + 2 + 1, none⟩ = some (.slice B1 1 d1) ∧ kInt.C w B1 1 [3] ∧
    w.cell? ⟨a3.block, a3.off + 4, none⟩ = some (.int .i64 3) ∧ w.cell? ⟨a3.block, a3.off + 4 + 1, none⟩ = some (.slice B2 2 d2) ∧ kInt.C w B2 2 [1, 0] := by
  obtain ⟨x1, e1, h1⟩ := at_str h.g.terms 0 (by decide)
  obtain ⟨x2, e2, h2⟩ := at_str h.g.names 1 (by decide)
  obtain ⟨x3, B0, d0, e3, _, h3, _, k3⟩ := at_rule h.g.rules 0 (by decide)
  obtain ⟨x4, B1, d1, e4, _, h4, _, k4⟩ := at_rule h.g.rules 1 (by decide)
  obtain ⟨x5, B2, d2, e5, h5, h6, _, k6⟩ := at_rule h.g.rules 2 (by decide)
  injection e1 with e1; injection e2 with e2; injection e3 with e3; injection e4 with e4; injection e5 with e5
  subst e1 e2 e3 e4 e5
  have z1 : a1.add 0 = a1 := by simp [Addr.add]
  have z3 : a3.add (0 * 2) = a3 := by simp [Addr.add]
  have h1' : w.cell? a1 = some (.string ⟨#[97]⟩) := (congrArg w.cell? z1).symm.trans h1
  have h3' : w.cell? ⟨a3.block, a3.off + 1, none⟩ = some (.slice B0 2 d0) := (congrArg (fun a : Addr => w.cell? ⟨a.block, a.off + 1, none⟩) z3).symm.trans h3
  exact ⟨B0, d0, B1, d1, B2, d2, (blk_cell h.p1 0).trans rfl, (blk_cell h.p1 1).trans rfl, (blk_cell h.p1 2).trans rfl, (blk_cell h.q1 0).trans rfl, (blk_cell h.q2 0).trans rfl, (blk_cell h.q2 1).trans rfl, (blk_cell h.q3 0).trans rfl, (blk_cell h.q3 1).trans rfl, h1', h2, h3', k3, h4, k4, h5, h6, k6⟩
theorem blk_two (w : World) (o o' : Obj) : ((w.alloc o).alloc o').heap[w.heap.size + 1]? = some o' := by
  have h := blk_new (w.alloc o) o'
  rw [show (w.alloc o).heap.size = w.heap.size + 1 by simp] at h
  exact h
theorem wake_rep {w : World} {A1 A2 A3 : Option Addr} {c1 c2 c3 : Nat} (h : RepG w wakeG A1 A2 A3 c1 c2 c3) : ∃ a1 a2 a3, A1 = some a1 ∧ A2 = some a2 ∧ A3 = some a3 := by
  obtain ⟨x1, e1, _⟩ := at_str h.terms 0 (by decide)
  obtain ⟨x2, e2, _⟩ := at_str h.names 1 (by decide)
  obtain ⟨x3, B0, d0, e3, _⟩ := at_rule h.rules 0 (by decide)
  exact ⟨x1, x2, x3, e1, e2, e3⟩
end Go.Proofs.Ytphmmppmhphgeaa

/- The wakes of law 03 answer true. -/
set_option linter.unusedVariables false
set_option linter.unusedSimpArgs false
namespace Go.Proofs.Ytphmmppmhphgeaa
open Go.RowKit Go.Proofs.YtphmmppmhphgeaaW.PrintWords

section
variable {w : World} {b1 b2 b3 : Nat} {a1 a2 a3 : Addr} {c1 c2 c3 : Nat}
theorem wk_name (h : WK w b1 b2 b3 a1 a2 a3 c1 c2 c3) : Calls Try.prog 20 #[.agg #[.slice (some a1) 2 c1, .slice (some a2) 2 c2, .slice (some a3) 3 c3], .int .i64 3] w fun e w' => e = .returned (.tuple #[.string ⟨#[65]⟩, .bool true]) ∧ Below w.heap.size w w' := by
  have h1 := name_c wakeG (some a1) (some a2) (some a3) c1 c2 c3 3 w h.g (by decide) (by omega)
  rw [wake_name] at h1
  exact h1
theorem wk_good (h : WK w b1 b2 b3 a1 a2 a3 c1 c2 c3) : Calls Try.prog 23 #[.agg #[.slice (some a1) 2 c1, .slice (some a2) 2 c2, .slice (some a3) 3 c3]] w fun e w' => e = .returned (.bool true) ∧ Below w.heap.size w w' := by
  have h1 := good_c wakeG (some a1) (some a2) (some a3) c1 c2 c3 w h.g
  rw [wake_good] at h1
  exact h1
theorem wk_term1 (w : World) : Calls Try.prog 25 #[.agg #[.slice (some a1) 2 c1, .slice (some a2) 2 c2, .slice (some a3) 3 c3], .int .i64 1] w fun e w' => e = .returned (.bool true) ∧ Below w.heap.size w w' := by
  have h1 := term_c wakeG (some a1) (some a2) (some a3) c1 c2 c3 1 w
  rw [show termF wakeG 1 = true by kernel_rfl] at h1
  exact h1
theorem wk_term2 (w : World) : Calls Try.prog 25 #[.agg #[.slice (some a1) 2 c1, .slice (some a2) 2 c2, .slice (some a3) 3 c3], .int .i64 2] w fun e w' => e = .returned (.bool false) ∧ Below w.heap.size w w' := by
  have h1 := term_c wakeG (some a1) (some a2) (some a3) c1 c2 c3 2 w
  rw [show termF wakeG 2 = false by kernel_rfl] at h1
  exact h1
theorem wk_of (w : World) : Calls Try.prog 17 #[.string wakeS] w fun e w' => (∃ a1 a2 a3 c1 c2 c3, e = .returned (.tuple #[.agg #[.slice (some a1) 2 c1, .slice (some a2) 2 c2, .slice (some a3) 3 c3], .agg #[.int .i64 0, .int .i64 0]]) ∧ RepG w' wakeG (some a1) (some a2) (some a3) c1 c2 c3) ∧ Below w.heap.size w w' := by
  refine (of_c wakeS w).mono ?_
  rw [wake_of]
  rintro e w1 ⟨⟨A1, A2, A3, c1, c2, c3, rfl, hg1⟩, hb1⟩
  obtain ⟨a1, a2, a3, rfl, rfl, rfl⟩ := wake_rep hg1
  exact ⟨⟨a1, a2, a3, c1, c2, c3, rfl, hg1⟩, hb1⟩
end

set_option maxRecDepth 100000 in
set_option maxHeartbeats 8000000 in
theorem wakes03_c (w : World) : Calls Try.prog 16 #[] w fun e w' => e = .returned (.bool true) ∧ Below w.heap.size w w' := by
  have HO2 := Aside0.mk wake_of2
  have HO3 := Aside0.mk wake_of3
  go_enter Try.func16, Try.ntmps16
  go_wp2_with (first | (have hx := HW8.out; go_at_call 25; go_loud (refine (wk_term2 _).mono ?_; rintro e x9 ⟨rfl, hb⟩; have HB9 := Aside0.mk (below_then HB8.out HB8.out.size hb); clear hb)) | (have hx := HW7.out; go_at_call 25; go_loud (refine (wk_term1 _).mono ?_; rintro e x8 ⟨rfl, hb⟩; have HW8 := Aside0.mk (HW7.out.below_ hb); have HB8 := Aside0.mk (below_then HB7.out HB7.out.size hb); clear hb; obtain ⟨B08, d08, B18, d18, B28, d28, r18, r28, r38, r48, r58, r68, r78, r88, r98, r108, r118, k18, r128, k28, r138, r148, k38⟩ := WK.reads HW8.out; have K18 := Aside0.mk k18; have K28 := Aside0.mk k28; have K38 := Aside0.mk k38; clear k18 k28 k38)) | (have hx := HW6.out; go_at_call 23; go_loud (refine (wk_good HW6.out).mono ?_; rintro e x7 ⟨rfl, hb⟩; have HW7 := Aside0.mk (HW6.out.below_ hb); have HB7 := Aside0.mk (below_then HB6.out HB6.out.size hb); clear hb; obtain ⟨B07, d07, B17, d17, B27, d27, r17, r27, r37, r47, r57, r67, r77, r87, r97, r107, r117, k17, r127, k27, r137, r147, k37⟩ := WK.reads HW7.out; have K17 := Aside0.mk k17; have K27 := Aside0.mk k27; have K37 := Aside0.mk k37; clear k17 k27 k37)) | (have hx := HW5.out; go_at_call 36; go_loud (refine (keepInts_c B25 (some ⟨_, 0, none⟩) d25 2 2 2 [1, 0] [1, 0] _ (Kd.C_below K35.out (below_alloc (Below.refl _ _) _)) (C_lit _ [1, 0] (by simp))).mono ?_; rw [show decide (([1, 0] : List Int) = [1, 0]) = true from rfl]; rintro e x6 ⟨rfl, hb⟩; have HW6 := Aside0.mk ((HW5.out.below_ (below_alloc (Below.refl _ _) _)).below_ hb); have HB6 := Aside0.mk (below_then (below_alloc HB5.out _) (by have := HB5.out.size; simp; omega) hb); clear hb; obtain ⟨B06, d06, B16, d16, B26, d26, r16, r26, r36, r46, r56, r66, r76, r86, r96, r106, r116, k16, r126, k26, r136, r146, k36⟩ := WK.reads HW6.out; have K16 := Aside0.mk k16; have K26 := Aside0.mk k26; have K36 := Aside0.mk k36; clear k16 k26 k36)) | (have hx := HW4.out; go_at_call 36; go_loud (refine (keepInts_c B14 (some ⟨_, 0, none⟩) d14 1 1 1 [3] [3] _ (Kd.C_below K24.out (below_alloc (Below.refl _ _) _)) (C_lit _ [3] (by simp))).mono ?_; rw [show decide (([3] : List Int) = [3]) = true from rfl]; rintro e x5 ⟨rfl, hb⟩; have HW5 := Aside0.mk ((HW4.out.below_ (below_alloc (Below.refl _ _) _)).below_ hb); have HB5 := Aside0.mk (below_then (below_alloc HB4.out _) (by have := HB4.out.size; simp; omega) hb); clear hb; obtain ⟨B05, d05, B15, d15, B25, d25, r15, r25, r35, r45, r55, r65, r75, r85, r95, r105, r115, k15, r125, k25, r135, r145, k35⟩ := WK.reads HW5.out; have K15 := Aside0.mk k15; have K25 := Aside0.mk k25; have K35 := Aside0.mk k35; clear k15 k25 k35)) | (have hx := HW40.out; go_at_call 36; go_loud (refine (keepInts_c B040 (some ⟨_, 0, none⟩) d040 2 2 2 [0, 2] [0, 2] _ (Kd.C_below K140.out (below_alloc (Below.refl _ _) _)) (C_lit _ [0, 2] (by simp))).mono ?_; rw [show decide (([0, 2] : List Int) = [0, 2]) = true from rfl]; rintro e x4 ⟨rfl, hb⟩; have HW4 := Aside0.mk ((HW40.out.below_ (below_alloc (Below.refl _ _) _)).below_ hb); have HB4 := Aside0.mk (below_then (below_alloc HB40.out _) (by have := HB40.out.size; simp; omega) hb); clear hb; obtain ⟨B04, d04, B14, d14, B24, d24, r14, r24, r34, r44, r54, r64, r74, r84, r94, r104, r114, k14, r124, k24, r134, r144, k34⟩ := WK.reads HW4.out; have K14 := Aside0.mk k14; have K24 := Aside0.mk k24; have K34 := Aside0.mk k34; clear k14 k24 k34)) | (have hx := HW3.out; go_at_call 20; go_loud (refine (wk_name HW3.out).mono ?_; rintro e x4 ⟨rfl, hb⟩; have HW40 := Aside0.mk (HW3.out.below_ hb); have HB40 := Aside0.mk (below_then HB3.out HB3.out.size hb); clear hb; obtain ⟨B040, d040, B140, d140, B240, d240, r140, r240, r340, r440, r540, r640, r740, r840, r940, r1040, r1140, k140, r1240, k240, r1340, r1440, k340⟩ := WK.reads HW40.out; have K140 := Aside0.mk k140; have K240 := Aside0.mk k240; have K340 := Aside0.mk k340; clear k140 k240 k340)) | (have hx := H2.out; go_at_call 17; go_loud (refine (of_c _ _).mono ?_; rw [HO3.out]; rintro e w3 ⟨rfl, hb⟩; have h3 := below_then (below_alloc (below_alloc H2.out (.cells #[.slice none 0 0, .slice none 0 0, .slice none 0 0] 25 (0, 0))) (.cells #[.int .i64 13, .int .i64 4] 30 (0, 0))) (by have := H2.out.size; simp; omega) hb; have hb2 := below_alloc (below_alloc (Below.refl w3.heap.size w3) (.cells #[.slice none 0 0, .slice none 0 0, .slice none 0 0] 25 (0, 0))) (.cells #[.int .i64 12, .int .i64 7] 30 (0, 0)); have HW3 := Aside0.mk (WK.mk (b1 := w1.heap.size) (b2 := w2.heap.size) (b3 := w3.heap.size) (((G2.out.below_ (below_alloc (below_alloc (Below.refl _ _) (.cells #[.slice none 0 0, .slice none 0 0, .slice none 0 0] 25 (0, 0))) (.cells #[.int .i64 13, .int .i64 4] 30 (0, 0)))).below_ hb).below_ hb2) (blk_alloc (blk_alloc (blk_below (blk_alloc (blk_alloc P2.out (.cells #[.slice none 0 0, .slice none 0 0, .slice none 0 0] 25 (0, 0))) (.cells #[.int .i64 13, .int .i64 4] 30 (0, 0))) hb) (.cells #[.slice none 0 0, .slice none 0 0, .slice none 0 0] 25 (0, 0))) (.cells #[.int .i64 12, .int .i64 7] 30 (0, 0))) (blk_alloc (blk_alloc (blk_below (blk_alloc (blk_alloc Q2.out (.cells #[.slice none 0 0, .slice none 0 0, .slice none 0 0] 25 (0, 0))) (.cells #[.int .i64 13, .int .i64 4] 30 (0, 0))) hb) (.cells #[.slice none 0 0, .slice none 0 0, .slice none 0 0] 25 (0, 0))) (.cells #[.int .i64 12, .int .i64 7] 30 (0, 0))) (blk_alloc (blk_alloc (blk_below (blk_two w2 (.cells #[.slice none 0 0, .slice none 0 0, .slice none 0 0] 25 (0, 0)) (.cells #[.int .i64 13, .int .i64 4] 30 (0, 0))) hb) (.cells #[.slice none 0 0, .slice none 0 0, .slice none 0 0] 25 (0, 0))) (.cells #[.int .i64 12, .int .i64 7] 30 (0, 0))) (blk_two w3 (.cells #[.slice none 0 0, .slice none 0 0, .slice none 0 0] 25 (0, 0)) (.cells #[.int .i64 12, .int .i64 7] 30 (0, 0)))); have HB3 := Aside0.mk (below_alloc (below_alloc h3 (.cells #[.slice none 0 0, .slice none 0 0, .slice none 0 0] 25 (0, 0))) (.cells #[.int .i64 12, .int .i64 7] 30 (0, 0))); clear hb h3 hb2; obtain ⟨B03, d03, B13, d13, B23, d23, r13, r23, r33, r43, r53, r63, r73, r83, r93, r103, r113, k13, r123, k23, r133, r143, k33⟩ := WK.reads HW3.out; have K13 := Aside0.mk k13; have K23 := Aside0.mk k23; have K33 := Aside0.mk k33; clear k13 k23 k33)) | (have hx := H1.out; go_at_call 17; go_loud (refine (of_c _ _).mono ?_; rw [HO2.out]; rintro e w2 ⟨rfl, hb⟩; have H2 := Aside0.mk (below_then (below_alloc (below_alloc H1.out (.cells #[.slice (some a1) 2 c1, .slice (some a2) 2 c2, .slice (some a3) 3 c3] 25 (0, 0))) (.cells #[.int .i64 0, .int .i64 0] 30 (0, 0))) (by have := H1.out.size; simp; omega) hb); have G2 := Aside0.mk ((G1.out.below_ (below_alloc (below_alloc (Below.refl _ _) (.cells #[.slice (some a1) 2 c1, .slice (some a2) 2 c2, .slice (some a3) 3 c3] 25 (0, 0))) (.cells #[.int .i64 0, .int .i64 0] 30 (0, 0)))).below_ hb); have P2 := Aside0.mk (blk_below (blk_alloc (blk_new w1 (.cells #[.slice (some a1) 2 c1, .slice (some a2) 2 c2, .slice (some a3) 3 c3] 25 (0, 0))) (.cells #[.int .i64 0, .int .i64 0] 30 (0, 0))) hb); have Q2 := Aside0.mk (blk_below (blk_two w1 (.cells #[.slice (some a1) 2 c1, .slice (some a2) 2 c2, .slice (some a3) 3 c3] 25 (0, 0)) (.cells #[.int .i64 0, .int .i64 0] 30 (0, 0))) hb); clear hb)) | (go_at_call 17; go_loud (refine (wk_of w).mono ?_; rintro e w1 ⟨⟨a1, a2, a3, c1, c2, c3, rfl, hg1⟩, hb⟩; have H1 := Aside0.mk hb; have G1 := Aside0.mk hg1; clear hg1 hb)))
  go_ret
  exact ⟨ret_bool (by first | rfl | simp), HB9.out⟩
end Go.Proofs.Ytphmmppmhphgeaa

/- The wakes of law 06 answer true. -/
set_option linter.unusedVariables false
set_option linter.unusedSimpArgs false
namespace Go.Proofs.Ytphmmppmhphgeaa
open Go.RowKit Go.Proofs.YtphmmppmhphgeaaW.PrintWords Go.Proofs.YtphmmppmhphgeaaW.PrintLast

theorem ints_C {W : World} {b : Nat} {xs : List Int} (h : W.heap[b]? = some (.cells (xs.map (Value.int .i64)).toArray 3 (0, 0))) (hm : xs.length ≤ 9223372036854775807) : kInt.C W (some ⟨b, 0, none⟩) xs.length xs := by
  refine ⟨rfl, hm, fun _ => ⟨⟨b, 0, none⟩, rfl, fun j p hj => ?_⟩⟩
  obtain ⟨hjl, rfl⟩ := List.getElem?_eq_some_iff.1 hj
  refine ⟨[.int .i64 xs[j]], rfl, rfl, fun i u hu => ?_⟩
  cases i with
  | zero =>
    cases hu
    have e : (⟨b, 0, none⟩ : Addr).add (j * 1 + 0) = ⟨b, j, none⟩ := by
      unfold Addr.add
      simp
      intro hj0
      exact hj0.symm
    refine (congrArg W.cell? e).trans ((blk_cell h j).trans ?_)
    simp [hjl]
  | succ i => cases hu
theorem C_none {α : Type} (d : Kd α) (w : World) : d.C w none 0 [] := ⟨rfl, by omega, fun h => by omega⟩
theorem keepBools_v (A B : Option Addr) (c d n m : Nat) (xs ys : List Bool) (w : World) (hr : Kd.bool.C w A n xs) (hs : Kd.bool.C w B m ys) {v : Bool} (hv : decide (xs = ys) = v) :
    Calls Try.prog 29 #[.slice A n c, .slice B m d] w fun e w' => e = .returned (.bool v) ∧ Below w.heap.size w w' := by
  subst hv; exact keepBools_c A B c d n m xs ys w hr hs
/-- A text that is read. -/
theorem of_ok {s : ByteArray} {g : Gram} (h : ofF s = .ok g) (w : World) : Calls Try.prog 17 #[.string s] w fun e w' => (∃ A1 A2 A3 c1 c2 c3, e = .returned (.tuple #[.agg #[.slice A1 g.terms.length c1, .slice A2 g.names.length c2, .slice A3 g.rules.length c3], .agg #[.int .i64 0, .int .i64 0]]) ∧ RepG w' g A1 A2 A3 c1 c2 c3) ∧ Below w.heap.size w w' := by
  refine (of_c s w).mono ?_
  rw [h]
  rintro e w1 ⟨he, hb1⟩
  exact ⟨he, hb1⟩
def wake6S : ByteArray := ⟨#[83, 32, 61, 32, 65, 32, 66, 32, 124, 32, 39, 97, 39, 32, 59, 32, 65, 32, 61, 32, 59, 32, 66, 32, 61, 32, 66, 32, 39, 98, 39, 32, 124, 32, 65, 32, 65, 32, 59, 32, 67, 32, 61, 32, 39, 99, 39, 32, 59]⟩
def wake6G : Gram := ⟨[⟨#[97]⟩, ⟨#[98]⟩, ⟨#[99]⟩], [⟨#[83]⟩, ⟨#[65]⟩, ⟨#[66]⟩, ⟨#[67]⟩], [⟨3, [4, 5]⟩, ⟨3, [0]⟩, ⟨4, []⟩, ⟨5, [5, 1]⟩, ⟨5, [4, 4]⟩, ⟨6, [2]⟩]⟩
theorem wake6_of : ofF wake6S = .ok wake6G := by kernel_rfl
theorem wake6_good : goodF wake6G = true := by kernel_rfl
theorem wake6_null : nullF wake6G = [false, false, false, true, true, true, false] := by kernel_rfl
theorem wake6_r0 : ruleB wake6G 0 = true := by kernel_rfl
theorem wake6_r1 : ruleB wake6G 1 = false := by kernel_rfl
theorem wake6_a0 : allB wake6G [] = true := by kernel_rfl
theorem wake6_a1 : allB wake6G [3, 0] = false := by kernel_rfl
theorem wake6_a2 : allB wake6G [99] = false := by kernel_rfl
set_option maxRecDepth 100000 in
set_option maxHeartbeats 8000000 in
theorem wakes06_c (w : World) : Calls Try.prog 28 #[] w fun e w' => e = .returned (.bool true) ∧ Below w.heap.size w w' := by
  obtain ⟨wg, hwg⟩ : ∃ g, g = wake6G := ⟨_, rfl⟩
  have HOF : Aside0 (ofF wake6S = .ok wg) := ⟨by rw [hwg]; exact wake6_of⟩
  have HGD : Aside0 (goodF wg = true) := ⟨by rw [hwg]; exact wake6_good⟩
  have HNU : Aside0 (nullF wg = [false, false, false, true, true, true, false]) := ⟨by rw [hwg]; exact wake6_null⟩
  have H0 : Aside0 (ruleB wg 0 = true) := ⟨by rw [hwg]; exact wake6_r0⟩
  have H1 : Aside0 (ruleB wg 1 = false) := ⟨by rw [hwg]; exact wake6_r1⟩
  have H2 : Aside0 (allB wg [] = true) := ⟨by rw [hwg]; exact wake6_a0⟩
  have H3 : Aside0 (allB wg [3, 0] = false) := ⟨by rw [hwg]; exact wake6_a1⟩
  have H4 : Aside0 (allB wg [99] = false) := ⟨by rw [hwg]; exact wake6_a2⟩
  clear hwg
  go_enter Try.func28, Try.ntmps28
  go_upto_region 2 with (go_at_call 17; go_loud (refine (of_ok HOF.out w).mono ?_; rintro e w1 ⟨⟨A1, A2, A3, c1, c2, c3, rfl, hg1⟩, hb1⟩; have HB1 := Aside0.mk hb1; have HG1 := Aside0.mk hg1; clear hg1 hb1))
  obtain ⟨v, hv⟩ : ∃ v, v = (w1.alloc (.cells #[.slice A1 wg.terms.length c1, .slice A2 wg.names.length c2, .slice A3 wg.rules.length c3] 25 (0, 0))).alloc (.cells #[.int .i64 0, .int .i64 0] 30 (0, 0)) := ⟨_, rfl⟩
  have K1 : Aside0 (v.heap[w1.heap.size]? = some (.cells #[.slice A1 wg.terms.length c1, .slice A2 wg.names.length c2, .slice A3 wg.rules.length c3] 25 (0, 0))) := ⟨by rw [hv]; exact blk_alloc (blk_new w1 _) _⟩
  have K2 : Aside0 (v.heap[w1.heap.size + 1]? = some (.cells #[.int .i64 0, .int .i64 0] 30 (0, 0))) := ⟨by rw [hv]; exact blk_two w1 _ _⟩
  have HG : Aside0 (RepG v wg A1 A2 A3 c1 c2 c3) := ⟨by rw [hv]; exact HG1.out.below_ (below_alloc (below_alloc (Below.refl _ _) _) _)⟩
  have HB : Aside0 (Below w.heap.size w v) := ⟨by rw [hv]; exact (HB1.out.alloc HB1.out.size _).alloc (by simp; have := HB1.out.size; omega) _⟩
  simp only [← hv]
  clear hv HG1 HB1
  refine wp_region_lit ?_
  refine pl_held (B := v.heap.size) (v := v) (Below.refl _ _) (fun hHeld => ?_)
  refine pl_value (N := (some 8)) (v := ?v1) (w1 := ?w1) (by rfl) rfl ?h1 ?_
  case h1 => (have d0 := (blk_cell (blk_below K1.out hHeld) 0).trans rfl; have d1 := (blk_cell (blk_below K1.out hHeld) 1).trans rfl; have d2 := (blk_cell (blk_below K1.out hHeld) 2).trans rfl; go_simp; first | rfl | (constructor; rfl; rfl))
  simp only [Act.put, List.setIfInBounds_toArray, List.set_cons_zero, List.set_cons_succ]
  refine goesCL_ (N := (some 9)) Try.func30 (by kernel_rfl) rfl (by rfl) rfl rfl (ofN_yes wg A1 A2 A3 c1 c2 c3 _ (HG.out.below_ hHeld) HGD.out) (by simp [Act.eval]) ?_
  rintro e x2_1 ⟨⟨b, rfl, hbb, hbs⟩, hb2_1⟩
  refine ⟨_, rfl, ?_⟩
  simp only [Act.put, List.setIfInBounds_toArray, List.set_cons_zero, List.set_cons_succ]
  refine pl_held (B := v.heap.size) (v := v) (below_then hHeld hHeld.size hb2_1) (fun hHeld => ?_)
  refine pl_value (N := (some 3)) (v := ?v3) (w1 := ?w3) (by rfl) rfl ?h3 ?_
  case h3 => (go_simp; first | rfl | (constructor; rfl; rfl))
  simp only [Act.put, List.setIfInBounds_toArray, List.set_cons_zero, List.set_cons_succ]
  refine wpList_nil ?_
  go_upto_region 3 with (fail)
  have HBB := Aside0.mk hbb
  have HV : Aside0 (Below v.heap.size v x2_1) := ⟨hb2_1⟩
  have K3 := Aside0.mk (blk_below K1.out hb2_1)
  have K4 := Aside0.mk (blk_below K2.out hb2_1)
  have HG1 := Aside0.mk (HG.out.below_ hb2_1)
  have HL : Aside0 ((nullF wg).length = 7) := ⟨by rw [HNU.out]; rfl⟩
  clear hbb hb2_1 hbs
  refine wp_region_lit ?_
  refine pl_held (B := x2_1.heap.size) (v := x2_1) (Below.refl _ _) (fun hHeld => ?_)
  refine pl_value (N := (some 10)) (v := ?v4) (w1 := ?w4) (by rfl) rfl ?h4 ?_
  case h4 => (go_simp; first | rfl | (constructor; rfl; rfl))
  simp only [Act.put, List.setIfInBounds_toArray, List.set_cons_zero, List.set_cons_succ]
  refine pl_value (N := (some 11)) (v := ?v5) (w1 := ?w5) (by rfl) rfl ?h5 ?_
  case h5 => (have d0 := (blk_cell (blk_below K3.out hHeld) 0).trans rfl; have d1 := (blk_cell (blk_below K3.out hHeld) 1).trans rfl; have d2 := (blk_cell (blk_below K3.out hHeld) 2).trans rfl; have d3 := (blk_cell (blk_below K4.out hHeld) 0).trans rfl; have d4 := (blk_cell (blk_below K4.out hHeld) 1).trans rfl; go_simp; first | rfl | (constructor; rfl; rfl))
  simp only [Act.put, List.setIfInBounds_toArray, List.set_cons_zero, List.set_cons_succ]
  refine pl_value (N := (some 12)) (v := ?v6) (w1 := ?w6) (by rfl) rfl ?h6 ?_
  case h6 => (go_simp; first | rfl | (constructor; rfl; rfl))
  simp only [Act.put, List.setIfInBounds_toArray, List.set_cons_zero, List.set_cons_succ]
  refine pl_value (N := (some 13)) (v := ?v7) (w1 := ?w7) (by rfl) rfl ?h7 ?_
  case h7 => (go_simp; first | rfl | (constructor; rfl; rfl))
  simp only [Act.put, List.setIfInBounds_toArray, List.set_cons_zero, List.set_cons_succ]
  refine pl_value (N := (some 14)) (v := ?v8) (w1 := ?w8) (by rfl) rfl ?h8 ?_
  case h8 => (go_simp; first | rfl | (constructor; rfl; rfl))
  simp only [Act.put, List.setIfInBounds_toArray, List.set_cons_zero, List.set_cons_succ]
  refine pl_alloc (N := (some 15)) (v := ?v9) (o := ?o9) (by rfl) rfl ?h9 ?_
  case h9 => (go_simp; first | rfl | (constructor; rfl; rfl))
  intro x3_5 hb3_5 hx3_5 hs3_5 hq3_5
  simp only [Act.put, List.setIfInBounds_toArray, List.set_cons_zero, List.set_cons_succ]
  refine pl_held (B := x2_1.heap.size) (v := x2_1) (below_then hHeld hHeld.size hb3_5) (fun hHeld => ?_)
  refine goesCL_ (N := (some 16)) Try.func29 (by kernel_rfl) rfl (by rfl) rfl rfl (keepBools_v (some ⟨b, 0, none⟩) (some ⟨x2_1.heap.size, 0, none⟩) (nullF wg).length 7 (nullF wg).length 7 (nullF wg) [false, false, false, true, true, true, false] _ ((HBB.out.below hHeld).C (by rw [HL.out]; omega)) ((show BB _ _ [false, false, false, true, true, true, false] from hx3_5).C (by decide)) (decide_eq_true HNU.out)) (by simp [Act.eval]) ?_
  rintro e x3_6 ⟨rfl, hb3_6⟩
  refine ⟨_, rfl, ?_⟩
  simp only [Act.put, List.setIfInBounds_toArray, List.set_cons_zero, List.set_cons_succ]
  refine pl_held (B := x2_1.heap.size) (v := x2_1) (below_then hHeld hHeld.size hb3_6) (fun hHeld => ?_)
  refine pl_value (N := (some 17)) (v := ?v11) (w1 := ?w11) (by rfl) rfl ?h11 ?_
  case h11 => (go_simp; first | rfl | (constructor; rfl; rfl))
  simp only [Act.put, List.setIfInBounds_toArray, List.set_cons_zero, List.set_cons_succ]
  refine pl_value (N := (some 18)) (v := ?v12) (w1 := ?w12) (by rfl) rfl ?h12 ?_
  case h12 => (go_simp; first | rfl | (constructor; rfl; rfl))
  simp only [Act.put, List.setIfInBounds_toArray, List.set_cons_zero, List.set_cons_succ]
  refine pl_value (N := (some 19)) (v := ?v13) (w1 := ?w13) (by rfl) rfl ?h13 ?_
  case h13 => (have d0 := (blk_cell (blk_below K3.out hHeld) 0).trans rfl; have d1 := (blk_cell (blk_below K3.out hHeld) 1).trans rfl; have d2 := (blk_cell (blk_below K3.out hHeld) 2).trans rfl; have d3 := (blk_cell (blk_below K4.out hHeld) 0).trans rfl; have d4 := (blk_cell (blk_below K4.out hHeld) 1).trans rfl; go_simp; first | rfl | (constructor; rfl; rfl))
  simp only [Act.put, List.setIfInBounds_toArray, List.set_cons_zero, List.set_cons_succ]
  refine goesCL_ (N := (some 20)) Try.func32 (by kernel_rfl) rfl (by rfl) rfl rfl (ruleP_c wg A1 A2 A3 c1 c2 c3 0 _ (HG1.out.below_ hHeld) H0.out) (by simp [Act.eval]) ?_
  rintro e x3_10 ⟨rfl, hb3_10⟩
  refine ⟨_, rfl, ?_⟩
  simp only [Act.put, List.setIfInBounds_toArray, List.set_cons_zero, List.set_cons_succ]
  refine pl_held (B := x2_1.heap.size) (v := x2_1) (below_then hHeld hHeld.size hb3_10) (fun hHeld => ?_)
  refine pl_value (N := (some 21)) (v := ?v15) (w1 := ?w15) (by rfl) rfl ?h15 ?_
  case h15 => (go_simp; first | rfl | (constructor; rfl; rfl))
  simp only [Act.put, List.setIfInBounds_toArray, List.set_cons_zero, List.set_cons_succ]
  refine pl_value (N := (some 22)) (v := ?v16) (w1 := ?w16) (by rfl) rfl ?h16 ?_
  case h16 => (go_simp; first | rfl | (constructor; rfl; rfl))
  simp only [Act.put, List.setIfInBounds_toArray, List.set_cons_zero, List.set_cons_succ]
  refine pl_value (N := (some 23)) (v := ?v17) (w1 := ?w17) (by rfl) rfl ?h17 ?_
  case h17 => (have d0 := (blk_cell (blk_below K3.out hHeld) 0).trans rfl; have d1 := (blk_cell (blk_below K3.out hHeld) 1).trans rfl; have d2 := (blk_cell (blk_below K3.out hHeld) 2).trans rfl; have d3 := (blk_cell (blk_below K4.out hHeld) 0).trans rfl; have d4 := (blk_cell (blk_below K4.out hHeld) 1).trans rfl; go_simp; first | rfl | (constructor; rfl; rfl))
  simp only [Act.put, List.setIfInBounds_toArray, List.set_cons_zero, List.set_cons_succ]
  refine goesCL_ (N := (some 24)) Try.func32 (by kernel_rfl) rfl (by rfl) rfl rfl (ruleP_c wg A1 A2 A3 c1 c2 c3 1 _ (HG1.out.below_ hHeld) H1.out) (by simp [Act.eval]) ?_
  rintro e x3_14 ⟨rfl, hb3_14⟩
  refine ⟨_, rfl, ?_⟩
  simp only [Act.put, List.setIfInBounds_toArray, List.set_cons_zero, List.set_cons_succ]
  refine pl_held (B := x2_1.heap.size) (v := x2_1) (below_then hHeld hHeld.size hb3_14) (fun hHeld => ?_)
  refine pl_value (N := (some 25)) (v := ?v19) (w1 := ?w19) (by rfl) rfl ?h19 ?_
  case h19 => (go_simp; first | rfl | (constructor; rfl; rfl))
  simp only [Act.put, List.setIfInBounds_toArray, List.set_cons_zero, List.set_cons_succ]
  refine pl_value (N := (some 26)) (v := ?v20) (w1 := ?w20) (by rfl) rfl ?h20 ?_
  case h20 => (go_simp; first | rfl | (constructor; rfl; rfl))
  simp only [Act.put, List.setIfInBounds_toArray, List.set_cons_zero, List.set_cons_succ]
  refine pl_value (N := (some 27)) (v := ?v21) (w1 := ?w21) (by rfl) rfl ?h21 ?_
  case h21 => (go_simp; first | rfl | (constructor; rfl; rfl))
  simp only [Act.put, List.setIfInBounds_toArray, List.set_cons_zero, List.set_cons_succ]
  refine pl_value (N := (some 28)) (v := ?v22) (w1 := ?w22) (by rfl) rfl ?h22 ?_
  case h22 => (have d0 := (blk_cell (blk_below K3.out hHeld) 0).trans rfl; have d1 := (blk_cell (blk_below K3.out hHeld) 1).trans rfl; have d2 := (blk_cell (blk_below K3.out hHeld) 2).trans rfl; have d3 := (blk_cell (blk_below K4.out hHeld) 0).trans rfl; have d4 := (blk_cell (blk_below K4.out hHeld) 1).trans rfl; go_simp; first | rfl | (constructor; rfl; rfl))
  simp only [Act.put, List.setIfInBounds_toArray, List.set_cons_zero, List.set_cons_succ]
  refine goesCL_ (N := (some 29)) Try.func34 (by kernel_rfl) rfl (by rfl) rfl rfl (allP_c wg A1 A2 A3 c1 c2 c3 none 0 [] _ (HG1.out.below_ hHeld) (C_none _ _) H2.out) (by simp [Act.eval]) ?_
  rintro e x3_19 ⟨rfl, hb3_19⟩
  refine ⟨_, rfl, ?_⟩
  simp only [Act.put, List.setIfInBounds_toArray, List.set_cons_zero, List.set_cons_succ]
  refine pl_held (B := x2_1.heap.size) (v := x2_1) (below_then hHeld hHeld.size hb3_19) (fun hHeld => ?_)
  refine pl_value (N := (some 30)) (v := ?v24) (w1 := ?w24) (by rfl) rfl ?h24 ?_
  case h24 => (go_simp; first | rfl | (constructor; rfl; rfl))
  simp only [Act.put, List.setIfInBounds_toArray, List.set_cons_zero, List.set_cons_succ]
  refine pl_value (N := (some 31)) (v := ?v25) (w1 := ?w25) (by rfl) rfl ?h25 ?_
  case h25 => (go_simp; first | rfl | (constructor; rfl; rfl))
  simp only [Act.put, List.setIfInBounds_toArray, List.set_cons_zero, List.set_cons_succ]
  refine pl_value (N := (some 32)) (v := ?v26) (w1 := ?w26) (by rfl) rfl ?h26 ?_
  case h26 => (have d0 := (blk_cell (blk_below K3.out hHeld) 0).trans rfl; have d1 := (blk_cell (blk_below K3.out hHeld) 1).trans rfl; have d2 := (blk_cell (blk_below K3.out hHeld) 2).trans rfl; have d3 := (blk_cell (blk_below K4.out hHeld) 0).trans rfl; have d4 := (blk_cell (blk_below K4.out hHeld) 1).trans rfl; go_simp; first | rfl | (constructor; rfl; rfl))
  simp only [Act.put, List.setIfInBounds_toArray, List.set_cons_zero, List.set_cons_succ]
  refine pl_alloc (N := (some 33)) (v := ?v27) (o := ?o27) (by rfl) rfl ?h27 ?_
  case h27 => (go_simp; first | rfl | (constructor; rfl; rfl))
  intro x3_23 hb3_23 hx3_23 hs3_23 hq3_23
  simp only [Act.put, List.setIfInBounds_toArray, List.set_cons_zero, List.set_cons_succ]
  refine pl_held (B := x2_1.heap.size) (v := x2_1) (below_then hHeld hHeld.size hb3_23) (fun hHeld => ?_)
  refine goesCL_ (N := (some 34)) Try.func34 (by kernel_rfl) rfl (by rfl) rfl rfl (allP_c wg A1 A2 A3 c1 c2 c3 (some ⟨x3_19.heap.size, 0, none⟩) 2 [3, 0] _ (HG1.out.below_ hHeld) (ints_C hx3_23 (by decide)) H3.out) (by simp [Act.eval]) ?_
  rintro e x3_24 ⟨rfl, hb3_24⟩
  refine ⟨_, rfl, ?_⟩
  simp only [Act.put, List.setIfInBounds_toArray, List.set_cons_zero, List.set_cons_succ]
  refine pl_held (B := x2_1.heap.size) (v := x2_1) (below_then hHeld hHeld.size hb3_24) (fun hHeld => ?_)
  refine pl_value (N := (some 35)) (v := ?v29) (w1 := ?w29) (by rfl) rfl ?h29 ?_
  case h29 => (go_simp; first | rfl | (constructor; rfl; rfl))
  simp only [Act.put, List.setIfInBounds_toArray, List.set_cons_zero, List.set_cons_succ]
  refine pl_value (N := (some 36)) (v := ?v30) (w1 := ?w30) (by rfl) rfl ?h30 ?_
  case h30 => (go_simp; first | rfl | (constructor; rfl; rfl))
  simp only [Act.put, List.setIfInBounds_toArray, List.set_cons_zero, List.set_cons_succ]
  refine pl_value (N := (some 37)) (v := ?v31) (w1 := ?w31) (by rfl) rfl ?h31 ?_
  case h31 => (go_simp; first | rfl | (constructor; rfl; rfl))
  simp only [Act.put, List.setIfInBounds_toArray, List.set_cons_zero, List.set_cons_succ]
  refine pl_value (N := (some 38)) (v := ?v32) (w1 := ?w32) (by rfl) rfl ?h32 ?_
  case h32 => (have d0 := (blk_cell (blk_below K3.out hHeld) 0).trans rfl; have d1 := (blk_cell (blk_below K3.out hHeld) 1).trans rfl; have d2 := (blk_cell (blk_below K3.out hHeld) 2).trans rfl; have d3 := (blk_cell (blk_below K4.out hHeld) 0).trans rfl; have d4 := (blk_cell (blk_below K4.out hHeld) 1).trans rfl; go_simp; first | rfl | (constructor; rfl; rfl))
  simp only [Act.put, List.setIfInBounds_toArray, List.set_cons_zero, List.set_cons_succ]
  refine pl_alloc (N := (some 39)) (v := ?v33) (o := ?o33) (by rfl) rfl ?h33 ?_
  case h33 => (go_simp; first | rfl | (constructor; rfl; rfl))
  intro x3_29 hb3_29 hx3_29 hs3_29 hq3_29
  simp only [Act.put, List.setIfInBounds_toArray, List.set_cons_zero, List.set_cons_succ]
  refine pl_held (B := x2_1.heap.size) (v := x2_1) (below_then hHeld hHeld.size hb3_29) (fun hHeld => ?_)
  refine goesCL_ (N := (some 40)) Try.func34 (by kernel_rfl) rfl (by rfl) rfl rfl (allP_c wg A1 A2 A3 c1 c2 c3 (some ⟨x3_24.heap.size, 0, none⟩) 1 [99] _ (HG1.out.below_ hHeld) (ints_C hx3_29 (by decide)) H4.out) (by simp [Act.eval]) ?_
  rintro e x3_30 ⟨rfl, hb3_30⟩
  refine ⟨_, rfl, ?_⟩
  simp only [Act.put, List.setIfInBounds_toArray, List.set_cons_zero, List.set_cons_succ]
  refine pl_held (B := x2_1.heap.size) (v := x2_1) (below_then hHeld hHeld.size hb3_30) (fun hHeld => ?_)
  refine pl_value (N := (some 41)) (v := ?v35) (w1 := ?w35) (by rfl) rfl ?h35 ?_
  case h35 => (go_simp; first | rfl | (constructor; rfl; rfl))
  simp only [Act.put, List.setIfInBounds_toArray, List.set_cons_zero, List.set_cons_succ]
  refine pl_value (N := (some 42)) (v := ?v36) (w1 := ?w36) (by rfl) rfl ?h36 ?_
  case h36 => (go_simp; first | rfl | (constructor; rfl; rfl))
  simp only [Act.put, List.setIfInBounds_toArray, List.set_cons_zero, List.set_cons_succ]
  refine pl_value (N := (some 0)) (v := ?v37) (w1 := ?w37) (by rfl) rfl ?h37 ?_
  case h37 => (go_simp; first | rfl | (constructor; rfl; rfl))
  simp only [Act.put, List.setIfInBounds_toArray, List.set_cons_zero, List.set_cons_succ]
  refine wpList_nil ?_
  go_wp2
  go_ret
  exact ⟨ret_bool rfl, below_then HB.out HB.out.size (below_then HV.out HV.out.size hHeld)⟩
end Go.Proofs.Ytphmmppmhphgeaa

/- A grammar of one's own: what is held while its rows are made. -/
set_option linter.unusedVariables false
set_option linter.unusedSimpArgs false
namespace Go.Proofs.Ytphmmppmhphgeaa
open Go.RowKit Go.Proofs.YtphmmppmhphgeaaW.PrintWords Go.Proofs.YtphmmppmhphgeaaW.PrintLast

/-- Two rows that are being made, and a block that may have been made. -/
structure OF (w W : World) (g : Gram) (A1 A2 A3 : Option Addr) (c1 c2 c3 : Nat) (v : Value) (xs : List ByteArray) (u : Value) (ys : List ByteArray) (ob : Option Nat) : Prop where
  below : Below w.heap.size w W
  p : W.heap[w.heap.size]? = some (.cells #[.slice A1 g.terms.length c1, .slice A2 g.names.length c2, .slice A3 g.rules.length c3] 25 (0, 0))
  r : W.heap[w.heap.size + 1]? = some (.cells #[.slice none 0 0, .slice none 0 0, .slice none 0 0] 25 (0, 0))
  rv : kStr.R 9 W w.heap.size (fun k => some k ≠ ob ∧ some k ≠ u.ownBlock) v xs
  ru : kStr.R 9 W w.heap.size (fun k => some k ≠ ob ∧ some k ≠ v.ownBlock) u ys
  cell : ∀ b, ob = some b → w.heap.size + 1 < b ∧ W.heap[b]? = some (.cells #[.slice none 0 0, .slice none 0 0, .slice none 0 0] 25 (0, 0))
section
variable {w W W1 : World} {g : Gram} {A1 A2 A3 : Option Addr} {c1 c2 c3 : Nat} {v u v1 : Value} {xs ys zs : List ByteArray} {ob : Option Nat}
theorem OF.swap (h : OF w W g A1 A2 A3 c1 c2 c3 v xs u ys ob) : OF w W g A1 A2 A3 c1 c2 c3 u ys v xs ob := ⟨h.below, h.p, h.r, h.ru, h.rv, h.cell⟩
theorem OF.mkV (h : OF w W g A1 A2 A3 c1 c2 c3 (.slice none 0 0) [] u ys ob) (hr : kStr.R 9 W1 w.heap.size (fun k => some k ≠ ob ∧ some k ≠ u.ownBlock) v1 []) (hb : Below w.heap.size w W1) (hg : W.grownBy W1 none) (hat : ∃ b, v1.ownBlock = some b ∧ W.heap.size ≤ b) : OF w W1 g A1 A2 A3 c1 c2 c3 v1 [] u ys ob := by
  refine ⟨hb, blk_grown h.p hg (by simp), blk_grown h.r hg (by simp), hr, ?_, fun b e => ⟨(h.cell b e).1, blk_grown (h.cell b e).2 hg (by simp)⟩⟩
  obtain ⟨b, h1, h2⟩ := hat
  refine Kd.R_mono (Kd.R_bound h.ru |> fun h3 => Kd.R_grown h3 hg (fun k _ => by simp)) (fun k hk => ⟨hk.1.1, ?_⟩)
  rw [h1]
  intro e
  injection e with e
  have := hk.2.2.1
  omega
theorem OF.appV (h : OF w W g A1 A2 A3 c1 c2 c3 v xs u ys ob) (hr : kStr.R 9 W1 w.heap.size (fun k => some k ≠ ob ∧ some k ≠ u.ownBlock) v1 zs) (hb : Below w.heap.size w W1) (hg : W.grownBy W1 v.ownBlock) (hat : v1.ownBlock = v.ownBlock ∨ ∃ b, v1.ownBlock = some b ∧ W.heap.size ≤ b) : OF w W1 g A1 A2 A3 c1 c2 c3 v1 zs u ys ob := by
  refine ⟨hb, blk_grown h.p hg (Kd.R_ne h.rv h.p (by decide)), blk_grown h.r hg (Kd.R_ne h.rv h.r (by decide)), hr, Kd.R_after h.ru hg hat, fun b e => ⟨(h.cell b e).1, blk_grown (h.cell b e).2 hg (Kd.R_ne h.rv (h.cell b e).2 (by decide))⟩⟩
theorem OF.mkB (h : OF w W g A1 A2 A3 c1 c2 c3 v xs u ys none) : OF w (W.alloc (.cells #[.slice none 0 0, .slice none 0 0, .slice none 0 0] 25 (0, 0))) g A1 A2 A3 c1 c2 c3 v xs u ys (some W.heap.size) := by
  have hlt := blk_lt h.r
  refine ⟨below_alloc h.below _, blk_alloc h.p _, blk_alloc h.r _, ?_, ?_, fun b e => ?_⟩
  · refine Kd.R_mono (Kd.R_alloc (Kd.R_bound h.rv) _) (fun k hk => ⟨fun e => ?_, hk.1.2⟩)
    injection e with e
    have := hk.2.2.1
    omega
  · refine Kd.R_mono (Kd.R_alloc (Kd.R_bound h.ru) _) (fun k hk => ⟨fun e => ?_, hk.1.2⟩)
    injection e with e
    have := hk.2.2.1
    omega
  · injection e with e
    subst e
    exact ⟨hlt, blk_new W _⟩
end
/-- No texts, made. -/
theorem mk_str_step {ops : Array Oper} {o : Oper} {a : Act} {Q : Exit → Act → World → Prop} {Kc : Act → World → Prop} {base : Nat} {w0 W : World} {ok : Nat → Prop} {N : Tmp} (hw : Region.wanted o (yielded ops a.tmps) = true) (hd : o.dst = some N) (ho : o.op = .buildSlice 22 0 #[])
    (HB : Below base w0 W) (hbase : base ≤ W.heap.size) (hfresh : ok W.heap.size)
    (h : ∀ v1 w1, kStr.R 9 w1 base ok v1 [] → Below base w0 w1 → W.grownBy w1 none → (∃ b, v1.ownBlock = some b ∧ W.heap.size ≤ b) → Kc (a.put o.dst v1) w1) :
    if Region.wanted o (yielded ops a.tmps) = true then Oper.wp Try.prog o a W Kc Q else Kc (a.put o.dst undef) W := by
  refine Kd.R_lit_step kStr base 9 hw hd (xs := []) (inner := []) (ok := ok) (okp := fun _ => False) ?_ ⟨rfl, fun i x hi => by simp at hi⟩ (fun k h => h.elim) hfresh HB hbase (by simp) h
  have hrun : (Instr.buildSlice 22 0 #[]).run Try.prog W = .ok (.slice (some ⟨W.heap.size, 0, none⟩) 0 0) (W.alloc (.cells #[] 9)) := by kernel_rfl
  simp [execOp, ho, hrun]
/-- Texts behind texts. -/
theorem app_strs_step {ops : Array Oper} {o : Oper} {a : Act} {Q : Exit → Act → World → Prop} {Kc : Act → World → Prop} {base : Nat} {w0 W : World} {ok : Nat → Prop} {v : Value} {s x : Operand} {xs ys : List ByteArray} {A : Option Addr} {c : Nat} (hw : Region.wanted o (yielded ops a.tmps) = true) (ho : o.op = .call { callee := .builtin .append, args := #[s, x], argTypes := #[22, 22] })
    (HO : kStr.R 9 W base ok v xs) (HB : Below base w0 W) (hbase : base ≤ W.heap.size) (hl : xs.length + ys.length ≤ 1000000000000) (hfresh : ∀ k, W.heap.size ≤ k → ok k) (hs : a.eval s = v) (hx : a.eval x = .slice A ys.length c) (HC : kStr.C W A ys.length ys)
    (h : ∀ v1 w1, kStr.R 9 w1 base ok v1 (xs ++ ys) → Below base w0 w1 → W.grownBy w1 v.ownBlock → (v1.ownBlock = v.ownBlock ∨ ∃ b, v1.ownBlock = some b ∧ W.heap.size ≤ b) → Kc (a.put o.dst v1) w1) :
    if Region.wanted o (yielded ops a.tmps) = true then Oper.wp Try.prog o a W Kc Q else Kc (a.put o.dst undef) W :=
  Kd.R_append_rows_step kStr base hw s x 22 9 _ 16 ho Try.underlying22 infoStr rfl (by decide) (by decide) v xs ys A ys.length c ok (fun _ => False) hs hx HO HC (fun x cs h => h) (fun _ h => h.elim) hfresh HB hbase (by omega) h
end Go.Proofs.Ytphmmppmhphgeaa
