/- The contract of the document's answer for a grammar. -/
import Derived.Test.YtphmmppmhphgeaaP10
import Derived.Test.YtphmmppmhphgeaaT4
import Derived.Test.YtphmmppmhphgeaaT5
import Derived.Test.YtphmmppmhphgeaaC9
set_option linter.unusedVariables false
set_option linter.unusedSimpArgs false
namespace Go.Proofs.Ytphmmppmhphgeaa
open Go.RowKit Go.Proofs.YtphmmppmhphgeaaW.PrintWords Go.Proofs.YtphmmppmhphgeaaW.PrintLast

/-- While a grammar is made: the grammar's block, the three rows. -/
structure O1 (w W : World) (ts ns : List ByteArray) (rs : List Rule) (v1 v2 v3 : Value) : Prop where
  below : Below w.heap.size w W
  g : W.heap[w.heap.size]? = some (.cells #[v1, v2, v3] 25 (0, 0))
  terms : kStr.R 9 W w.heap.size (fun k => some k ≠ v2.ownBlock) v1 ts
  names : kStr.R 9 W w.heap.size (fun k => some k ≠ v1.ownBlock) v2 ns
  rules : kRule.R 56 W w.heap.size (fun _ => True) v3 rs
section
variable {w W W1 : World} {ts ns xs1 : List ByteArray} {rs rs1 : List Rule} {v1 v2 v3 v' : Value}
theorem O1.step_ (h : O1 w W ts ns rs v1 v2 v3) (hb : Below W.heap.size W W1) : O1 w W1 ts ns rs v1 v2 v3 :=
  ⟨below_then h.below h.below.size hb, blk_below h.g hb, Kd.R_below h.terms hb, Kd.R_below h.names hb, Kd.R_below h.rules hb⟩
theorem O1.alloc_ (h : O1 w W ts ns rs v1 v2 v3) (o : Obj) : O1 w (W.alloc o) ts ns rs v1 v2 v3 := h.step_ (below_alloc (Below.refl _ _) o)
theorem O1.drew_ (h : O1 w W ts ns rs v1 v2 v3) : O1 w W.drew ts ns rs v1 v2 v3 := h.step_ (below_drew1 (Below.refl _ _))
theorem O1.addName (h : O1 w W ts ns rs v1 v2 v3) (a : Appd kStr 9 w W w.heap.size (fun k => some k ≠ v1.ownBlock) v2 xs1 v' W1) : O1 w (W1.setCell ⟨w.heap.size, 1, none⟩ v') ts xs1 rs v1 v' v3 := by
  have g1 := blk_grown h.g a.grown (Kd.R_ne h.names h.g (by decide))
  exact ⟨below_set a.below (Nat.le_refl _) 1 _, blk_set g1 1 _, Kd.R_set (two_append h.terms a) g1 (by decide) 1 _, Kd.R_set a.row g1 (by decide) 1 _, Kd.R_set (Kd.R_over h.rules h.names (by decide) a.grown) g1 (by decide) 1 _⟩
theorem O1.addTerm (h : O1 w W ts ns rs v1 v2 v3) (a : Appd kStr 9 w W w.heap.size (fun k => some k ≠ v2.ownBlock) v1 xs1 v' W1) : O1 w (W1.setCell ⟨w.heap.size, 0, none⟩ v') xs1 ns rs v' v2 v3 := by
  have g1 := blk_grown h.g a.grown (Kd.R_ne h.terms h.g (by decide))
  exact ⟨below_set a.below (Nat.le_refl _) 0 _, blk_set g1 0 _, Kd.R_set a.row g1 (by decide) 0 _, Kd.R_set (two_append h.names a) g1 (by decide) 0 _, Kd.R_set (Kd.R_over h.rules h.terms (by decide) a.grown) g1 (by decide) 0 _⟩
theorem O1.addRule (h : O1 w W ts ns rs v1 v2 v3) (a : Appd kRule 56 w W w.heap.size (fun _ => True) v3 rs1 v' W1) : O1 w (W1.setCell ⟨w.heap.size, 2, none⟩ v') ts ns rs1 v1 v2 v' := by
  have g1 := blk_grown h.g a.grown (Kd.R_ne h.rules h.g (by decide))
  exact ⟨below_set a.below (Nat.le_refl _) 2 _, blk_set g1 2 _, Kd.R_set (Kd.R_over h.terms h.rules (by decide) a.grown) g1 (by decide) 2 _, Kd.R_set (Kd.R_over h.names h.rules (by decide) a.grown) g1 (by decide) 2 _, Kd.R_set a.row g1 (by decide) 2 _⟩
theorem O1.rep {A1 A2 A3 : Option Addr} {n1 n2 n3 c1 c2 c3 : Nat} (h : O1 w W ts ns rs (.slice A1 n1 c1) (.slice A2 n2 c2) (.slice A3 n3 c3)) : n1 = ts.length ∧ n2 = ns.length ∧ n3 = rs.length ∧ RepG W ⟨ts, ns, rs⟩ A1 A2 A3 c1 c2 c3 := by
  obtain ⟨h1, k1, r1⟩ := Kd.R_reads' h.terms
  obtain ⟨h2, k2, r2⟩ := Kd.R_reads' h.names
  obtain ⟨h3, k3, r3⟩ := Kd.R_reads' h.rules
  exact ⟨h1, h2, h3, r1, r2, r3, by show ts.length ≤ c1; omega, by show ns.length ≤ c2; omega, by show rs.length ≤ c3; omega⟩
end
def Of1End (w : World) : Except (Int × Int) Gram → Ending → World → Prop
  | .error (a, p), e, w' => e = .returned (.agg #[.slice none 0 0, .slice none 0 0, .slice none 0 0, .int .i64 a, .int .i64 p])
  | .ok g, e, w' => ∃ A1 A2 A3 c1 c2 c3, e = .returned (.agg #[.slice A1 g.terms.length c1, .slice A2 g.names.length c2, .slice A3 g.rules.length c3, .int .i64 0, .int .i64 0]) ∧ RepG w' g A1 A2 A3 c1 c2 c3
theorem results_of1 {tmps : Array Value} {W : World} {q : Nat} {A1 A2 A3 : Option Addr} {n1 n2 n3 c1 c2 c3 : Nat} {x y : Int} (t2 : tmps.getD 2 undef = .pointer (some ⟨q, 0, none⟩))
    (h : W.heap[q]? = some (.cells #[.slice A1 n1 c1, .slice A2 n2 c2, .slice A3 n3 c3, .int .i64 x, .int .i64 y] 34 (0, 0))) :
    (results Try.f18 tmps).run Try.prog W = .ok (.agg #[.slice A1 n1 c1, .slice A2 n2 c2, .slice A3 n3 c3, .int .i64 x, .int .i64 y]) W := by
  have d1 := blk_cell h 0
  have d2 := blk_cell h 1
  have d3 := blk_cell h 2
  have d4 := blk_cell h 3
  have d5 := blk_cell h 4
  simp only [List.getElem?_toArray, List.getElem?_cons_zero, List.getElem?_cons_succ] at d1 d2 d3 d4 d5
  simp only [Array.getD_eq_getD_getElem?] at t2
  simp [results, Try.results18, go_sem, d1, d2, d3, d4, d5, t2]

theorem of1_rep {w W : World} {ts ns : List ByteArray} {rs : List Rule} {A1 A2 A3 : Option Addr} {n1 n2 n3 c1 c2 c3 q : Nat} {cs : Array Value} (h : O1 w W ts ns rs (.slice A1 n1 c1) (.slice A2 n2 c2) (.slice A3 n3 c3)) (hq : W.heap[q]? = some (.cells cs 34 (0, 0))) (x0 x1 x2 x3 x4 : Value) :
    n1 = ts.length ∧ n2 = ns.length ∧ n3 = rs.length ∧ RepG (((((W.setCell ⟨q, 0, none⟩ x0).setCell ⟨q, 1, none⟩ x1).setCell ⟨q, 2, none⟩ x2).setCell ⟨q, 3, none⟩ x3).setCell ⟨q, 4, none⟩ x4) ⟨ts, ns, rs⟩ A1 A2 A3 c1 c2 c3 := by
  have g1 := blk_set hq 0 x0
  have g2 := blk_set g1 1 x1
  have g3 := blk_set g2 2 x2
  have g4 := blk_set g3 3 x3
  obtain ⟨h1, k1, r1⟩ := Kd.R_reads' (Kd.R_set (Kd.R_set (Kd.R_set (Kd.R_set (Kd.R_set h.terms hq (by decide) 0 x0) g1 (by decide) 1 x1) g2 (by decide) 2 x2) g3 (by decide) 3 x3) g4 (by decide) 4 x4)
  obtain ⟨h2, k2, r2⟩ := Kd.R_reads' (Kd.R_set (Kd.R_set (Kd.R_set (Kd.R_set (Kd.R_set h.names hq (by decide) 0 x0) g1 (by decide) 1 x1) g2 (by decide) 2 x2) g3 (by decide) 3 x3) g4 (by decide) 4 x4)
  obtain ⟨h3, k3, r3⟩ := Kd.R_reads' (Kd.R_set (Kd.R_set (Kd.R_set (Kd.R_set (Kd.R_set h.rules hq (by decide) 0 x0) g1 (by decide) 1 x1) g2 (by decide) 2 x2) g3 (by decide) 3 x3) g4 (by decide) 4 x4)
  exact ⟨h1, h2, h3, r1, r2, r3, by show ts.length ≤ c1; omega, by show ns.length ≤ c2; omega, by show rs.length ≤ c3; omega⟩
section
variable {ops : Array Oper} {o : Oper} {a : Act} {Q : Exit → Act → World → Prop} {Kc : Act → World → Prop} {base : Nat} {w0 W : World} {v : Value} {ok : Nat → Prop} {s x : Operand}
theorem app_str_step {xs : List ByteArray} {p : ByteArray} (hw : Region.wanted o (yielded ops a.tmps) = true) (ho : o.op = .call { callee := .builtin .append, args := #[s, x], argTypes := #[22, 22] })
    (HO : kStr.R 9 W base ok v xs) (HB : Below base w0 W) (hbase : base ≤ W.heap.size) (hl : xs.length + 1 ≤ 4000000000000) (hfresh : ∀ k, W.heap.size ≤ k → ok k) (hs : a.eval s = v) (hx : a.eval x = .slice (some ⟨W.heap.size, 0, none⟩) 1 1)
    (h : ∀ v1 w1, Appd kStr 9 w0 W base ok v (xs ++ [p]) v1 w1 → Kc (a.put o.dst v1) w1) :
    if Region.wanted o (yielded ops a.tmps) = true then Oper.wp Try.prog o a (W.alloc (.cells #[.string p] 9)) Kc Q else Kc (a.put o.dst undef) (W.alloc (.cells #[.string p] 9)) :=
  Kd.R_append_step kStr base hw s x 22 9 _ 16 ho Try.underlying22 infoStr rfl (by decide) (by decide) v xs p [.string p] ok (fun _ => False) hs hx rfl (fun _ h => h.elim) hfresh HO HB hbase (by omega) (fun v1 w1 h1 h2 h3 h4 => h v1 w1 ⟨h1, h2, h3, h4⟩)
end

set_option maxRecDepth 100000 in
set_option maxHeartbeats 16000000 in
theorem of1_g (s : ByteArray) (w : World) : Calls Try.prog 18 #[.string s] w fun e w' => Of1End w (ofF s) e w' ∧ Below w.heap.size w w' := by
  obtain ⟨w0, hw0⟩ : ∃ w0 : World, w0 = w.alloc (.cells #[.slice none 0 0, .slice none 0 0, .slice none 0 0, .int .i64 0, .int .i64 0] 34 (0, 0)) := ⟨_, rfl⟩
  have HR0 : Aside0 (w0.heap[w.heap.size]? = some (.cells #[.slice none 0 0, .slice none 0 0, .slice none 0 0, .int .i64 0, .int .i64 0] 34 (0, 0))) := ⟨by rw [hw0]; exact blk_new w _⟩
  have HB0 : Aside0 (Below w.heap.size w w0) := ⟨by rw [hw0]; exact (Below.refl w.heap.size w).alloc (Nat.le_refl _) _⟩
  have HX := Aside0.mk (tokens1_c s w0)
  cases hlex : lexE s with
  | error er =>
    obtain ⟨a, p⟩ := er
    have ha : (a != 0) = true := by rw [bne_iff_ne]; exact lexE_err hlex
    have HR : Aside0 (ofF s = .error (a, p)) := ⟨by rw [ofF, hlex]⟩
    have HL := Lib.hid hlex
    clear hlex
    go_enter Try.func18, Try.ntmps18
    go_wp2_with (go_at_call 50; go_loud (simp only [← hw0]; refine HX.out.mono ?_; rw [HL.out]; rintro e w1 ⟨rfl, hb1⟩; have HRa := Aside0.mk (blk_alloc (blk_below HR0.out hb1) (.cells #[.slice none 0 0, .int .i64 a, .int .i64 p] 79 (0, 0))); have HB1 := Aside0.mk (below_then HB0.out HB0.out.size hb1); clear hb1; have e0 := (blk_cell HRa.out 0).trans rfl; have e1 := (blk_cell HRa.out 1).trans rfl; have e2 := (blk_cell HRa.out 2).trans rfl; have e3 := (blk_cell HRa.out 3).trans rfl; have e4 := (blk_cell HRa.out 4).trans rfl; have f0 := blk_frozen HRa.out 0; have f1 := blk_frozen HRa.out 1; have f2 := blk_frozen HRa.out 2; have f3 := blk_frozen HRa.out 3; have f4 := blk_frozen HRa.out 4))
    refine bodyPost_ret (results_of1 rfl (blk_set (blk_set (blk_set (blk_set (blk_set HRa.out 0 _) 1 _) 2 _) 3 _) 4 _)) rfl ⟨?_, below_set (below_set (below_set (below_set (below_set (HB1.out.alloc HB1.out.size _) (Nat.le_refl _) _ _) (Nat.le_refl _) _ _) (Nat.le_refl _) _ _) (Nat.le_refl _) _ _) (Nat.le_refl _) _ _⟩
    rw [HR.out]
    rfl
  | ok l =>
    have HLL := Aside0.mk (lexE_len hlex).1
    have HO : Aside0 (ofF s = (match readF s.size l with | .error e => .error e | .ok alts => grammF alts)) := ⟨by unfold ofF; simp only [hlex]; rfl⟩
    cases hread : readF s.size l with
    | error er =>
      obtain ⟨a, p⟩ := er
      have ha : (a != 0) = true := by rw [bne_iff_ne]; exact readF_err hread
      have HR : Aside0 (ofF s = .error (a, p)) := ⟨by rw [HO.out, hread]⟩
      have HL := Lib.hid hlex
      have HRD := Lib.hid hread
      clear hlex hread
      go_enter Try.func18, Try.ntmps18
      go_wp2_with (first | (have _hq := HB2.out; go_at_call 51; go_loud (simp only [← hwa]; refine (alts1_c A c l.length l s.size wa HT.out HLL.out).mono ?_; rw [HRD.out]; rintro e w2 ⟨rfl, hb2⟩; have HRb := Aside0.mk (blk_alloc (blk_below HRa.out hb2) (.cells #[.slice none 0 0, .int .i64 a, .int .i64 p] 82 (0, 0))); have HB3 := Aside0.mk (below_then HB2.out HB2.out.size hb2); clear hb2; have e0 := (blk_cell HRb.out 0).trans rfl; have e1 := (blk_cell HRb.out 1).trans rfl; have e2 := (blk_cell HRb.out 2).trans rfl; have e3 := (blk_cell HRb.out 3).trans rfl; have e4 := (blk_cell HRb.out 4).trans rfl; have f0 := blk_frozen HRb.out 0; have f1 := blk_frozen HRb.out 1; have f2 := blk_frozen HRb.out 2; have f3 := blk_frozen HRb.out 3; have f4 := blk_frozen HRb.out 4)) | (go_at_call 50; go_loud (simp only [← hw0]; refine HX.out.mono ?_; rw [HL.out]; rintro e w1 ⟨⟨A, c, rfl, hT⟩, hb1⟩; obtain ⟨wa, hwa⟩ : ∃ wa : World, wa = w1.alloc (.cells #[.slice A l.length c, .int .i64 0, .int .i64 0] 79 (0, 0)) := ⟨_, rfl⟩; have HRa : Aside0 (wa.heap[w.heap.size]? = some (.cells #[.slice none 0 0, .slice none 0 0, .slice none 0 0, .int .i64 0, .int .i64 0] 34 (0, 0))) := ⟨by rw [hwa]; exact blk_alloc (blk_below HR0.out hb1) _⟩; have HB2 : Aside0 (Below w.heap.size w wa) := ⟨by rw [hwa]; exact (below_then HB0.out HB0.out.size hb1).alloc (below_then HB0.out HB0.out.size hb1).size _⟩; have HT : Aside0 (kTok.C wa A l.length l) := ⟨by rw [hwa]; exact Kd.C_below hT (below_alloc (Below.refl _ _) _)⟩; clear hb1 hT)))
      refine bodyPost_ret (results_of1 rfl (blk_set (blk_set (blk_set (blk_set (blk_set HRb.out 0 _) 1 _) 2 _) 3 _) 4 _)) rfl ⟨?_, below_set (below_set (below_set (below_set (below_set (HB3.out.alloc HB3.out.size _) (Nat.le_refl _) _ _) (Nat.le_refl _) _ _) (Nat.le_refl _) _ _) (Nat.le_refl _) _ _) (Nat.le_refl _) _ _⟩
      rw [HR.out]
      rfl
    | ok alts =>
      have HKN := Aside0.mk (lex_read_kinds hlex hread)
      have HR : Aside0 (ofF s = gram1 alts) := ⟨by rw [HO.out, hread, gram1_eq HKN.out]⟩
      have HSH := Aside0.mk (readF_short hread).1
      have hl60 := (readF_short hread).2
      have HL := Lib.hid hlex
      have HRD := Lib.hid hread
      clear hlex hread HO
      go_enter Try.func18, Try.ntmps18
      go_wp2_with (first | (have _hq := HB2.out; go_at_call 51; go_loud (simp only [← hwa]; refine (alts1_c A c l.length l s.size wa HT.out HLL.out).mono ?_; rw [HRD.out]; rintro e w2 ⟨⟨Aa, ca, rfl, hC⟩, hb2⟩; obtain ⟨w3, hw3⟩ : ∃ w3 : World, w3 = w2.alloc (.cells #[.slice Aa alts.length ca, .int .i64 0, .int .i64 0] 82 (0, 0)) := ⟨_, rfl⟩; have KR : Aside0 (w3.heap[w.heap.size]? = some (.cells #[.slice none 0 0, .slice none 0 0, .slice none 0 0, .int .i64 0, .int .i64 0] 34 (0, 0))) := ⟨by rw [hw3]; exact blk_alloc (blk_below HRa.out hb2) _⟩; have KB : Aside0 (w3.cell? ⟨w2.heap.size, 0, none⟩ = some (.slice Aa alts.length ca)) := ⟨by rw [hw3]; exact (blk_cell (blk_new w2 _) 0).trans rfl⟩; have HB3 : Aside0 (Below w.heap.size w w3) := ⟨by rw [hw3]; exact (below_then HB2.out HB2.out.size hb2).alloc (below_then HB2.out HB2.out.size hb2).size _⟩; have HC : Aside0 (kAlt.C w3 Aa alts.length alts) := ⟨by rw [hw3]; exact Kd.C_below hC (below_alloc (Below.refl _ _) _)⟩; clear hb2 hC)) | (go_at_call 50; go_loud (simp only [← hw0]; refine HX.out.mono ?_; rw [HL.out]; rintro e w1 ⟨⟨A, c, rfl, hT⟩, hb1⟩; obtain ⟨wa, hwa⟩ : ∃ wa : World, wa = w1.alloc (.cells #[.slice A l.length c, .int .i64 0, .int .i64 0] 79 (0, 0)) := ⟨_, rfl⟩; have HRa : Aside0 (wa.heap[w.heap.size]? = some (.cells #[.slice none 0 0, .slice none 0 0, .slice none 0 0, .int .i64 0, .int .i64 0] 34 (0, 0))) := ⟨by rw [hwa]; exact blk_alloc (blk_below HR0.out hb1) _⟩; have HB2 : Aside0 (Below w.heap.size w wa) := ⟨by rw [hwa]; exact (below_then HB0.out HB0.out.size hb1).alloc (below_then HB0.out HB0.out.size hb1).size _⟩; have HT : Aside0 (kTok.C wa A l.length l) := ⟨by rw [hwa]; exact Kd.C_below hT (below_alloc (Below.refl _ _) _)⟩; clear hb1 hT)))
      simp only [← hw3]
      have HS0 : Aside0 (O1 w3 (w3.alloc (.cells #[.slice none 0 0, .slice none 0 0, .slice none 0 0] 25 (0, 0))) [] [] [] (.slice none 0 0) (.slice none 0 0) (.slice none 0 0)) := ⟨⟨(Below.refl _ _).alloc (Nat.le_refl _) _, blk_new w3 _, Kd.R_nil _ _ _ _ _, Kd.R_nil _ _ _ _ _, Kd.R_nil _ _ _ _ _⟩⟩
      have hwz : w2.heap.size + 1 = w3.heap.size := by rw [hw3]; simp
      simp only [hwz]
      obtain ⟨gb, hgb⟩ : ∃ gb, gb = w2.heap.size := ⟨_, rfl⟩
      rw [← hgb] at KB
      simp only [← hgb]
      clear hgb hwz hw3 hwa HT HRa _hq HB2 HB0 HR0 hw0 HX HL HRD HLL
      obtain ⟨NS, hNS⟩ : ∃ NS, namesF alts [] = NS := ⟨_, rfl⟩
      have HN0 : Aside0 (namesF (alts.drop 0) [] = NS) := ⟨hNS⟩
      have HRR := HR.out
      rw [gram1, hNS] at HRR
      clear hNS HR
      have HR := Aside0.mk HRR
      clear HRR
      go_loopw [6] (fun iv wr => ∃ (i : Nat) (ns : List ByteArray) (v2 : Value), i ≤ alts.length ∧ iv = .int .i64 i ∧ Aside0 (namesF (alts.drop i) ns = NS) ∧ Aside0 (ns.length ≤ i) ∧ Aside0 (O1 w3 wr [] ns [] (.slice none 0 0) v2 (.slice none 0 0))) (fun iv _ => alts.length - (intOf iv).toNat)
      case atStart => exact ⟨0, [], _, Nat.zero_le _, rfl, HN0, ⟨Nat.le_refl _⟩, HS0⟩
      case round =>
        clear HS0 HN0
        obtain ⟨i, ns, v2, hi, rfl, HN, HNL, HS⟩ := hrel
        obtain ⟨An, cn, rfl⟩ := Kd.R_slice HS.out.names
        have z0 := cell_at HS.out.below KB.out
        by_cases hlt : i < alts.length
        · obtain ⟨ad, A1, c1, eA, p1, p2, p3, p4, hle, hRt⟩ := at_alt HC.out i hlt
          subst eA
          obtain ⟨x, hx⟩ : ∃ x, x = (alts[i]'hlt).left.text := ⟨_, rfl⟩
          rw [← hx] at p2
          have P2 := Aside0.mk p2
          have j1 : (0 : Int) ≤ (i : Int) := by omega
          have j2 : (i : Int) < (alts.length : Int) := by omega
          have HNX := Aside0.mk ((namesF_at hlt).symm.trans HN.out)
          rw [← hx] at HNX
          clear hx p1 p2 p3 p4 hle hRt HN
          have HSd := Aside0.mk HS.out.drew_
          by_cases hneg : idxF ns x < 0
          · have HNY := HNX.out
            rw [addF_miss hneg] at HNY
            have HNZ := Aside0.mk HNY
            have HSe := Aside0.mk HSd.out.drew_
            clear HNY HNX
            go_wp2
            refine start_ (n := 11) (S := fun w' => Below w3.heap.size w3 w' ∧ w'.heap[w3.heap.size]? = some (.cells #[.slice none 0 0, .slice An ns.length cn, .slice none 0 0] 25 (0, 0))) (ds := []) (lb 11 0x0) (by kernel_rfl) rfl (by kernel_rfl) (⟨HSd.out.below, HSd.out.g⟩) (fun hHeld => ?_)
            refine pure_ (i := 0) (N := (some 44)) (v := ?_) (a' := ?_) (lb 11 0x1) rfl rfl (by kernel_rfl) (fun _ _ _ h => h) (Or.inl ⟨by rfl, ?_⟩) ?_ ?_
            rotate_left
            · (intro w'; go_simp; with_reducible rfl)
            rotate_left
            · (simp only [Act.put, List.setIfInBounds_toArray, List.set_cons_zero, List.set_cons_succ]; rfl)
            refine pure_ (i := 2) (N := (some 46)) (v := ?_) (a' := ?_) (lb 11 0x5) rfl rfl (by kernel_rfl) (fun _ _ _ h => h) (Or.inl ⟨by rfl, ?_⟩) ?_ ?_
            rotate_left
            · (intro w'; go_simp; with_reducible rfl)
            rotate_left
            · (simp only [Act.put, List.setIfInBounds_toArray, List.set_cons_zero, List.set_cons_succ]; rfl)
            refine pure_ (i := 4) (N := (some 48)) (v := ?_) (a' := ?_) (lb 11 0x15) rfl rfl (by kernel_rfl) (fun _ _ _ h => h) (Or.inl ⟨by rfl, ?_⟩) ?_ ?_
            rotate_left
            · (intro w'; go_simp; with_reducible rfl)
            rotate_left
            · (simp only [Act.put, List.setIfInBounds_toArray, List.set_cons_zero, List.set_cons_succ]; rfl)
            refine take_ (i := 1) (N := (some 45)) (v := ?_) (a' := ?_) (lb 11 0x17) rfl rfl (by kernel_rfl) (fun _ _ _ h => h) (Or.inl ⟨by rfl, ?_⟩) hHeld ?_ ?_
            rotate_left
            · (rintro w' ⟨hS, hG⟩; have d0 := (blk_cell hG 1).trans rfl; have d1 := cell_at hS KB.out; have d2 := cell_at hS P2.out; go_simp; with_reducible rfl)
            rotate_left
            · (simp only [Act.put, List.setIfInBounds_toArray, List.set_cons_zero, List.set_cons_succ]; rfl)
            refine take_ (i := 3) (N := (some 47)) (v := ?_) (a' := ?_) (lb 11 0x1f) rfl rfl (by kernel_rfl) (fun _ _ _ h => h) (Or.inl ⟨by rfl, ?_⟩) hHeld ?_ ?_
            rotate_left
            · (rintro w' ⟨hS, hG⟩; have d0 := (blk_cell hG 1).trans rfl; have d1 := cell_at hS KB.out; have d2 := cell_at hS P2.out; go_simp; with_reducible rfl)
            rotate_left
            · (simp only [Act.put, List.setIfInBounds_toArray, List.set_cons_zero, List.set_cons_succ]; rfl)
            refine pure_ (i := 5) (N := (some 49)) (v := ?_) (a' := ?_) (lb 11 0x3f) rfl rfl (by kernel_rfl) (fun _ _ _ h => h) (Or.inl ⟨by rfl, ?_⟩) ?_ ?_
            rotate_left
            · (intro w'; go_simp; with_reducible rfl)
            rotate_left
            · (simp only [Act.put, List.setIfInBounds_toArray, List.set_cons_zero, List.set_cons_succ]; rfl)
            refine pure_ (i := 6) (N := (some 50)) (v := ?_) (a' := ?_) (lb 11 0x7f) rfl rfl (by kernel_rfl) (fun _ _ _ h => h) (Or.inl ⟨by rfl, ?_⟩) ?_ ?_
            rotate_left
            · (intro w'; go_simp; with_reducible rfl)
            rotate_left
            · (simp only [Act.put, List.setIfInBounds_toArray, List.set_cons_zero, List.set_cons_succ]; rfl)
            refine pure_ (i := 7) (N := (some 51)) (v := ?_) (a' := ?_) (lb 11 0xff) rfl rfl (by kernel_rfl) (fun _ _ _ h => h) (Or.inl ⟨by rfl, ?_⟩) ?_ ?_
            rotate_left
            · (intro w'; go_simp; with_reducible rfl)
            rotate_left
            · (simp only [Act.put, List.setIfInBounds_toArray, List.set_cons_zero, List.set_cons_succ]; rfl)
            refine take_ (i := 8) (N := (some 52)) (v := ?_) (a' := ?_) (lb 11 0x1ff) rfl rfl (by kernel_rfl) (fun _ _ _ h => h) (Or.inl ⟨by rfl, ?_⟩) hHeld ?_ ?_
            rotate_left
            · (rintro w' ⟨hS, hG⟩; have d0 := (blk_cell hG 1).trans rfl; have d1 := cell_at hS KB.out; have d2 := cell_at hS P2.out; go_simp; with_reducible rfl)
            rotate_left
            · (simp only [Act.put, List.setIfInBounds_toArray, List.set_cons_zero, List.set_cons_succ]; rfl)
            refine one_ (i := 9) (N := (some 53)) (lb 11 0x3ff) rfl rfl (by kernel_rfl) (by decide) (fun K hK => ?_)
            (refine goes_ Try.func52 (by kernel_rfl) rfl #[.slice An ns.length cn, .string x] (by rfl) rfl rfl (by simp [Act.eval]) ?_; refine (at1_c _ _ _ _ _ _ (Kd.R_reads' HSd.out.names).2.2).mono ?_; rintro e w5 ⟨rfl, rfl⟩; refine ⟨_, rfl, ?_⟩; refine hK.out _ _ hHeld (fun hHeld => ?_))
            skip
            clear hK K
            refine norm_ (a' := ?_) ?_ ?_
            rotate_left
            · (show Act.put _ (some 53) _ = _; simp only [Act.put, List.setIfInBounds_toArray, List.set_cons_zero, List.set_cons_succ]; rfl)
            refine pure_ (i := 10) (N := (some 54)) (v := ?_) (a' := ?_) (lb 11 0x7ff) rfl rfl (by kernel_rfl) (fun _ _ _ h => h) (Or.inl ⟨by rfl, ?_⟩) ?_ ?_
            rotate_left
            · (intro w'; go_simp; with_reducible rfl)
            rotate_left
            · (simp only [Act.put, List.setIfInBounds_toArray, List.set_cons_zero, List.set_cons_succ]; rfl)
            refine done_ (by kernel_rfl) ?_
            go_wp2
            refine start_ (n := 13) (S := fun w' => Below w3.heap.size w3 w' ∧ w'.heap[w3.heap.size]? = some (.cells #[.slice none 0 0, .slice An ns.length cn, .slice none 0 0] 25 (0, 0))) (ds := [12]) (lb 13 0x0) (by kernel_rfl) rfl (by kernel_rfl) (⟨HSe.out.below, HSe.out.g⟩) (fun hHeld => ?_)
            refine pure_ (i := 0) (N := (some 55)) (v := ?_) (a' := ?_) (lb 13 0x1) rfl rfl (by kernel_rfl) (fun _ _ _ h => h) (Or.inl ⟨by rfl, ?_⟩) ?_ ?_
            rotate_left
            · (intro w'; go_simp; with_reducible rfl)
            rotate_left
            · (simp only [Act.put, List.setIfInBounds_toArray, List.set_cons_zero, List.set_cons_succ]; rfl)
            refine pure_ (i := 2) (N := (some 57)) (v := ?_) (a' := ?_) (lb 13 0x5) rfl rfl (by kernel_rfl) (fun _ _ _ h => h) (Or.inl ⟨by rfl, ?_⟩) ?_ ?_
            rotate_left
            · (intro w'; go_simp; with_reducible rfl)
            rotate_left
            · (simp only [Act.put, List.setIfInBounds_toArray, List.set_cons_zero, List.set_cons_succ]; rfl)
            refine pure_ (i := 4) (N := (some 59)) (v := ?_) (a' := ?_) (lb 13 0x15) rfl rfl (by kernel_rfl) (fun _ _ _ h => h) (Or.inl ⟨by rfl, ?_⟩) ?_ ?_
            rotate_left
            · (intro w'; go_simp; with_reducible rfl)
            rotate_left
            · (simp only [Act.put, List.setIfInBounds_toArray, List.set_cons_zero, List.set_cons_succ]; rfl)
            refine take_ (i := 1) (N := (some 56)) (v := ?_) (a' := ?_) (lb 13 0x17) rfl rfl (by kernel_rfl) (fun _ _ _ h => h) (Or.inl ⟨by rfl, ?_⟩) hHeld ?_ ?_
            rotate_left
            · (rintro w' ⟨hS, hG⟩; have d0 := (blk_cell hG 1).trans rfl; have d1 := cell_at hS KB.out; have d2 := cell_at hS P2.out; go_simp; with_reducible rfl)
            rotate_left
            · (simp only [Act.put, List.setIfInBounds_toArray, List.set_cons_zero, List.set_cons_succ]; rfl)
            refine take_ (i := 3) (N := (some 58)) (v := ?_) (a' := ?_) (lb 13 0x1f) rfl rfl (by kernel_rfl) (fun _ _ _ h => h) (Or.inl ⟨by rfl, ?_⟩) hHeld ?_ ?_
            rotate_left
            · (rintro w' ⟨hS, hG⟩; have d0 := (blk_cell hG 1).trans rfl; have d1 := cell_at hS KB.out; have d2 := cell_at hS P2.out; go_simp; with_reducible rfl)
            rotate_left
            · (simp only [Act.put, List.setIfInBounds_toArray, List.set_cons_zero, List.set_cons_succ]; rfl)
            refine pure_ (i := 5) (N := (some 60)) (v := ?_) (a' := ?_) (lb 13 0x3f) rfl rfl (by kernel_rfl) (fun _ _ _ h => h) (Or.inl ⟨by rfl, ?_⟩) ?_ ?_
            rotate_left
            · (intro w'; go_simp; with_reducible rfl)
            rotate_left
            · (simp only [Act.put, List.setIfInBounds_toArray, List.set_cons_zero, List.set_cons_succ]; rfl)
            refine pure_ (i := 6) (N := (some 61)) (v := ?_) (a' := ?_) (lb 13 0x7f) rfl rfl (by kernel_rfl) (fun _ _ _ h => h) (Or.inl ⟨by rfl, ?_⟩) ?_ ?_
            rotate_left
            · (intro w'; go_simp; with_reducible rfl)
            rotate_left
            · (simp only [Act.put, List.setIfInBounds_toArray, List.set_cons_zero, List.set_cons_succ]; rfl)
            refine pure_ (i := 7) (N := (some 62)) (v := ?_) (a' := ?_) (lb 13 0xff) rfl rfl (by kernel_rfl) (fun _ _ _ h => h) (Or.inl ⟨by rfl, ?_⟩) ?_ ?_
            rotate_left
            · (intro w'; go_simp; with_reducible rfl)
            rotate_left
            · (simp only [Act.put, List.setIfInBounds_toArray, List.set_cons_zero, List.set_cons_succ]; rfl)
            refine take_ (i := 8) (N := (some 63)) (v := ?_) (a' := ?_) (lb 13 0x1ff) rfl rfl (by kernel_rfl) (fun _ _ _ h => h) (Or.inl ⟨by rfl, ?_⟩) hHeld ?_ ?_
            rotate_left
            · (rintro w' ⟨hS, hG⟩; have d0 := (blk_cell hG 1).trans rfl; have d1 := cell_at hS KB.out; have d2 := cell_at hS P2.out; go_simp; with_reducible rfl)
            rotate_left
            · (simp only [Act.put, List.setIfInBounds_toArray, List.set_cons_zero, List.set_cons_succ]; rfl)
            refine one_ (i := 9) (N := (some 64)) (lb 13 0x3ff) rfl rfl (by kernel_rfl) (by decide) (fun K hK => ?_)
            refine value_ (w1 := ?_) (v := ?_) (by rfl) rfl ?_ ?_
            rotate_left 2
            · (go_simp; constructor; rfl; rfl)
            refine hK.out _ _ (⟨below_alloc hHeld.1 _, blk_alloc hHeld.2 _⟩) (fun hHeld => ?_)
            clear hK K
            refine norm_ (a' := ?_) ?_ ?_
            rotate_left
            · (show Act.put _ (some 64) _ = _; simp only [Act.put, List.setIfInBounds_toArray, List.set_cons_zero, List.set_cons_succ]; rfl)
            refine one_ (i := 10) (N := (some 65)) (lb 13 0x7ff) rfl rfl (by kernel_rfl) (by decide) (fun K hK => ?_)
            (refine app_str_step (p := x) (base := w3.heap.size) (w0 := w3) (ok := fun k => some k ≠ (Value.slice none 0 0).ownBlock) (by rfl) rfl HSe.out.names HSe.out.below HSe.out.below.size (by have := HNL.out; omega) (fresh_ne HSe.out.terms) (by simp [Act.eval]) (by simp [Act.eval]) ?_; intro v4 w4 A4; obtain ⟨Av4, cv4, hv4⟩ := A4.shape; subst hv4; have HA := Aside0.mk (HSe.out.addName A4); have hh := blk_grown HSe.out.g A4.grown (Kd.R_ne HSe.out.names HSe.out.g (by decide)); have d4 := (blk_cell hh 1).trans rfl; have f4 := blk_frozen hh 1; have HH4 := Aside0.mk (And.intro A4.below hh); clear A4 hh; refine hK.out _ _ HH4.out (fun hHeld => ?_))
            skip
            clear hK K
            refine norm_ (a' := ?_) ?_ ?_
            rotate_left
            · (show Act.put _ (some 65) _ = _; simp only [Act.put, List.setIfInBounds_toArray, List.set_cons_zero, List.set_cons_succ]; rfl)
            refine pure_ (i := 11) (N := (some 66)) (v := ?_) (a' := ?_) (lb 13 0xfff) rfl rfl (by kernel_rfl) (fun _ _ _ h => h) (Or.inl ⟨by rfl, ?_⟩) ?_ ?_
            rotate_left
            · (intro w'; go_simp; with_reducible rfl)
            rotate_left
            · (simp only [Act.put, List.setIfInBounds_toArray, List.set_cons_zero, List.set_cons_succ]; rfl)
            refine last_ (i := 12) (N := none) (lb 13 0x1fff) rfl rfl (by kernel_rfl) (by decide) (fun K hK => ?_)
            skip
            refine skip_ (w1 := ?_) (by rfl) rfl ?_ ?_
            rotate_left
            · (go_simp; rfl)
            refine hK.out _ _ ?_
            clear hK K
            refine done_ (by kernel_rfl) ?_
            go_wp2
            go_roundw
            case rel => exact ⟨i + 1, ns ++ [x], _, by omega, by go_num, HNZ, ⟨by rw [List.length_append]; have := HNL.out; simp; omega⟩, HA⟩
            case measure => simp [intOf]; omega
          · have HNY := HNX.out
            rw [addF_hit (by omega)] at HNY
            have HNZ := Aside0.mk HNY
            clear HNY HNX
            go_wp2
            refine start_ (n := 11) (S := fun w' => Below w3.heap.size w3 w' ∧ w'.heap[w3.heap.size]? = some (.cells #[.slice none 0 0, .slice An ns.length cn, .slice none 0 0] 25 (0, 0))) (ds := []) (lb 11 0x0) (by kernel_rfl) rfl (by kernel_rfl) (⟨HSd.out.below, HSd.out.g⟩) (fun hHeld => ?_)
            refine pure_ (i := 0) (N := (some 44)) (v := ?_) (a' := ?_) (lb 11 0x1) rfl rfl (by kernel_rfl) (fun _ _ _ h => h) (Or.inl ⟨by rfl, ?_⟩) ?_ ?_
            rotate_left
            · (intro w'; go_simp; with_reducible rfl)
            rotate_left
            · (simp only [Act.put, List.setIfInBounds_toArray, List.set_cons_zero, List.set_cons_succ]; rfl)
            refine pure_ (i := 2) (N := (some 46)) (v := ?_) (a' := ?_) (lb 11 0x5) rfl rfl (by kernel_rfl) (fun _ _ _ h => h) (Or.inl ⟨by rfl, ?_⟩) ?_ ?_
            rotate_left
            · (intro w'; go_simp; with_reducible rfl)
            rotate_left
            · (simp only [Act.put, List.setIfInBounds_toArray, List.set_cons_zero, List.set_cons_succ]; rfl)
            refine pure_ (i := 4) (N := (some 48)) (v := ?_) (a' := ?_) (lb 11 0x15) rfl rfl (by kernel_rfl) (fun _ _ _ h => h) (Or.inl ⟨by rfl, ?_⟩) ?_ ?_
            rotate_left
            · (intro w'; go_simp; with_reducible rfl)
            rotate_left
            · (simp only [Act.put, List.setIfInBounds_toArray, List.set_cons_zero, List.set_cons_succ]; rfl)
            refine take_ (i := 1) (N := (some 45)) (v := ?_) (a' := ?_) (lb 11 0x17) rfl rfl (by kernel_rfl) (fun _ _ _ h => h) (Or.inl ⟨by rfl, ?_⟩) hHeld ?_ ?_
            rotate_left
            · (rintro w' ⟨hS, hG⟩; have d0 := (blk_cell hG 1).trans rfl; have d1 := cell_at hS KB.out; have d2 := cell_at hS P2.out; go_simp; with_reducible rfl)
            rotate_left
            · (simp only [Act.put, List.setIfInBounds_toArray, List.set_cons_zero, List.set_cons_succ]; rfl)
            refine take_ (i := 3) (N := (some 47)) (v := ?_) (a' := ?_) (lb 11 0x1f) rfl rfl (by kernel_rfl) (fun _ _ _ h => h) (Or.inl ⟨by rfl, ?_⟩) hHeld ?_ ?_
            rotate_left
            · (rintro w' ⟨hS, hG⟩; have d0 := (blk_cell hG 1).trans rfl; have d1 := cell_at hS KB.out; have d2 := cell_at hS P2.out; go_simp; with_reducible rfl)
            rotate_left
            · (simp only [Act.put, List.setIfInBounds_toArray, List.set_cons_zero, List.set_cons_succ]; rfl)
            refine pure_ (i := 5) (N := (some 49)) (v := ?_) (a' := ?_) (lb 11 0x3f) rfl rfl (by kernel_rfl) (fun _ _ _ h => h) (Or.inl ⟨by rfl, ?_⟩) ?_ ?_
            rotate_left
            · (intro w'; go_simp; with_reducible rfl)
            rotate_left
            · (simp only [Act.put, List.setIfInBounds_toArray, List.set_cons_zero, List.set_cons_succ]; rfl)
            refine pure_ (i := 6) (N := (some 50)) (v := ?_) (a' := ?_) (lb 11 0x7f) rfl rfl (by kernel_rfl) (fun _ _ _ h => h) (Or.inl ⟨by rfl, ?_⟩) ?_ ?_
            rotate_left
            · (intro w'; go_simp; with_reducible rfl)
            rotate_left
            · (simp only [Act.put, List.setIfInBounds_toArray, List.set_cons_zero, List.set_cons_succ]; rfl)
            refine pure_ (i := 7) (N := (some 51)) (v := ?_) (a' := ?_) (lb 11 0xff) rfl rfl (by kernel_rfl) (fun _ _ _ h => h) (Or.inl ⟨by rfl, ?_⟩) ?_ ?_
            rotate_left
            · (intro w'; go_simp; with_reducible rfl)
            rotate_left
            · (simp only [Act.put, List.setIfInBounds_toArray, List.set_cons_zero, List.set_cons_succ]; rfl)
            refine take_ (i := 8) (N := (some 52)) (v := ?_) (a' := ?_) (lb 11 0x1ff) rfl rfl (by kernel_rfl) (fun _ _ _ h => h) (Or.inl ⟨by rfl, ?_⟩) hHeld ?_ ?_
            rotate_left
            · (rintro w' ⟨hS, hG⟩; have d0 := (blk_cell hG 1).trans rfl; have d1 := cell_at hS KB.out; have d2 := cell_at hS P2.out; go_simp; with_reducible rfl)
            rotate_left
            · (simp only [Act.put, List.setIfInBounds_toArray, List.set_cons_zero, List.set_cons_succ]; rfl)
            refine one_ (i := 9) (N := (some 53)) (lb 11 0x3ff) rfl rfl (by kernel_rfl) (by decide) (fun K hK => ?_)
            (refine goes_ Try.func52 (by kernel_rfl) rfl #[.slice An ns.length cn, .string x] (by rfl) rfl rfl (by simp [Act.eval]) ?_; refine (at1_c _ _ _ _ _ _ (Kd.R_reads' HSd.out.names).2.2).mono ?_; rintro e w5 ⟨rfl, rfl⟩; refine ⟨_, rfl, ?_⟩; refine hK.out _ _ hHeld (fun hHeld => ?_))
            skip
            clear hK K
            refine norm_ (a' := ?_) ?_ ?_
            rotate_left
            · (show Act.put _ (some 53) _ = _; simp only [Act.put, List.setIfInBounds_toArray, List.set_cons_zero, List.set_cons_succ]; rfl)
            refine pure_ (i := 10) (N := (some 54)) (v := ?_) (a' := ?_) (lb 11 0x7ff) rfl rfl (by kernel_rfl) (fun _ _ _ h => h) (Or.inl ⟨by rfl, ?_⟩) ?_ ?_
            rotate_left
            · (intro w'; go_simp; with_reducible rfl)
            rotate_left
            · (simp only [Act.put, List.setIfInBounds_toArray, List.set_cons_zero, List.set_cons_succ]; rfl)
            refine done_ (by kernel_rfl) ?_
            go_wp2
            go_roundw
            case rel => exact ⟨i + 1, ns, _, by omega, by go_num, HNZ, ⟨by have := HNL.out; omega⟩, HSd⟩
            case measure => simp [intOf]; omega
        · have j2 : ¬ (i : Int) < (alts.length : Int) := by omega
          have hq := HN.out
          rw [List.drop_eq_nil_of_le (by omega)] at hq
          have hq2 : ns = NS := hq
          subst hq2
          have hnl : ns.length ≤ 60 := by have := HNL.out; omega
          obtain ⟨SC, hSC⟩ : ∃ SC, scanF ns alts [] = SC := ⟨_, rfl⟩
          have HC0 : Aside0 (scanF ns (alts.drop 0) [] = SC) := ⟨hSC⟩
          have hrr := HR.out
          rw [hSC] at hrr
          have HRR := Aside0.mk hrr
          clear hq hSC hrr HR HN HNL
          go_wp2
          go_loopw [7] (fun iv wr => ∃ (i : Nat) (ts : List ByteArray) (v1 : Value), i ≤ alts.length ∧ iv = .int .i64 i ∧ Aside0 (scanF ns (alts.drop i) ts = SC) ∧ Aside0 (ts.length ≤ 8 * i) ∧ Aside0 (O1 w3 wr ts ns [] v1 (.slice An ns.length cn) (.slice none 0 0))) (fun iv _ => alts.length - (intOf iv).toNat)
          case atStart => exact ⟨0, [], _, Nat.zero_le _, rfl, HC0, ⟨Nat.le_refl _⟩, HS⟩
          case round =>
            clear HS HC0
            obtain ⟨i, ts, v1, hi, rfl, HSC, HTL, HS⟩ := hrel
            obtain ⟨At, ct, rfl⟩ := Kd.R_slice HS.out.terms
            have z0 := cell_at HS.out.below KB.out
            by_cases hlt : i < alts.length
            · obtain ⟨ad, A1, c1, eA, p1, p2, p3, p4, hle, hRt⟩ := at_alt HC.out i hlt
              subst eA
              have P4 := Aside0.mk p4
              have HRT := Aside0.mk hRt
              have h8 := HSH.out (alts[i]'hlt) (List.getElem_mem _)
              have HKI := Aside0.mk (HKN.out (alts[i]'hlt) (List.getElem_mem _))
              have hs := (scanF_at hlt).symm.trans HSC.out
              obtain ⟨right, hright⟩ : ∃ right, right = (alts[i]'hlt).right := ⟨_, rfl⟩
              rw [← hright] at P4 HRT h8 HKI hs
              have j1 : (0 : Int) ≤ (i : Int) := by omega
              have j2 : (i : Int) < (alts.length : Int) := by omega
              obtain ⟨SR, hSR⟩ : ∃ SR, scanR ns right ts = SR := ⟨_, rfl⟩
              have HSR0 : Aside0 (scanR ns (right.drop 0) ts = SR) := ⟨hSR⟩
              rw [hSR] at hs
              have HSE : Aside0 (∀ p, SR = .error p → SC = .error p) := ⟨fun p e => by rw [← hs, e]⟩
              have HSO : Aside0 (∀ ts', SR = .ok ts' → scanF ns (alts.drop (i + 1)) ts' = SC) := ⟨fun ts' e => by rw [← hs, e]⟩
              have HT0 : Aside0 (ts.length ≤ 8 * i + 0) := ⟨HTL.out⟩
              clear hs hSR hright p1 p2 p3 p4 hle hRt HSC HTL
              go_wp2
              obtain ⟨wo, hwo⟩ : ∃ wo : World, wo = wr := ⟨_, rfl⟩
              subst hwo
              go_loopw [8] (fun kv wr => ∃ (k : Nat) (ts : List ByteArray) (v1 : Value), k ≤ right.length ∧ kv = .int .i64 k ∧ Aside0 (scanR ns (right.drop k) ts = SR) ∧ Aside0 (ts.length ≤ 8 * i + k) ∧ Aside0 (O1 w3 wr ts ns [] v1 (.slice An ns.length cn) (.slice none 0 0))) (fun kv _ => right.length - (intOf kv).toNat)
              case atStart => exact ⟨0, ts, _, Nat.zero_le _, rfl, HSR0, HT0, HS⟩
              case round =>
                clear HSR0 HT0 HS z0
                obtain ⟨k, ts, v1, hk, rfl, HSR, HTL, HS⟩ := hrel
                obtain ⟨At, ct, rfl⟩ := Kd.R_slice HS.out.terms
                have z0 := cell_at HS.out.below KB.out
                have z4 := cell_at HS.out.below P4.out
                by_cases hkl : k < right.length
                · obtain ⟨td, eT, q0, q1, q2⟩ := at_tok HRT.out k hkl
                  subst eT
                  have y0 := cell_at HS.out.below q0
                  have y1 := cell_at HS.out.below q1
                  have y2 := cell_at HS.out.below q2
                  have hkd := HKI.out (right[k]'hkl) (List.getElem_mem _)
                  have hs := (scanR_at hkl).symm.trans HSR.out
                  obtain ⟨t, ht⟩ : ∃ t, t = right[k]'hkl := ⟨_, rfl⟩
                  rw [← ht] at y0 y1 y2 hkd hs
                  have j3 : (0 : Int) ≤ (k : Int) := by omega
                  have j4 : (k : Int) < (right.length : Int) := by omega
                  have HT := Aside0.mk (blk_new wr (.cells #[.int .i64 t.kind, .string t.text, .int .i64 t.pos] 49 (0, 0)))
                  have HSa := Aside0.mk (HS.out.alloc_ (.cells #[.int .i64 t.kind, .string t.text, .int .i64 t.pos] 49 (0, 0)))
                  have c1' := (blk_cell HSa.out.g 0).trans rfl
                  have c2' := (blk_cell HSa.out.g 1).trans rfl
                  clear q0 q1 q2 ht HSR
                  rcases hkd with k1 | k2
                  · have b1 : (t.kind == 1) = true := by rw [k1]; rfl
                    have b2 : (t.kind == 2) = false := by rw [k1]; rfl
                    by_cases hneg : idxF ns t.text < 0
                    · rw [if_pos ⟨k1, hneg⟩] at hs
                      have HE := Aside0.mk (HSE.out _ hs.symm)
                      have HRa := Aside0.mk (blk_below KR.out HSa.out.below)
                      have HBa := Aside0.mk (below_then HB3.out HB3.out.size HSa.out.below)
                      have e0 := (blk_cell HRa.out 0).trans rfl
                      have e1 := (blk_cell HRa.out 1).trans rfl
                      have e2 := (blk_cell HRa.out 2).trans rfl
                      have e3 := (blk_cell HRa.out 3).trans rfl
                      have e4 := (blk_cell HRa.out 4).trans rfl
                      have f0 := blk_frozen HRa.out 0
                      have f1 := blk_frozen HRa.out 1
                      have f2 := blk_frozen HRa.out 2
                      have f3 := blk_frozen HRa.out 3
                      have f4 := blk_frozen HRa.out 4
                      clear hs k1
                      go_wp2_with (go_at_call 52; go_loud (refine (at1_c _ _ _ ns t.text _ (Kd.R_reads' HSa.out.names).2.2).mono ?_; rintro e w5 ⟨rfl, rfl⟩))
                      refine bodyPost_ret (results_of1 rfl (blk_set (blk_set (blk_set (blk_set (blk_set HRa.out 0 _) 1 _) 2 _) 3 _) 4 _)) rfl ⟨?_, below_set (below_set (below_set (below_set (below_set HBa.out (Nat.le_refl _) _ _) (Nat.le_refl _) _ _) (Nat.le_refl _) _ _) (Nat.le_refl _) _ _) (Nat.le_refl _) _ _⟩
                      have h := HRR.out
                      rw [HE.out] at h
                      rw [h]
                      rfl
                    · rw [if_neg (fun h => hneg h.2), if_neg (by omega)] at hs
                      have HSN := Aside0.mk hs
                      clear hs k1
                      go_wp2_with (go_at_call 52; go_loud (refine (at1_c _ _ _ ns t.text _ (Kd.R_reads' HSa.out.names).2.2).mono ?_; rintro e w5 ⟨rfl, rfl⟩))
                      go_roundw
                      case rel => exact ⟨k + 1, ts, _, by omega, by go_num, HSN, ⟨by have := HTL.out; omega⟩, HSa⟩
                      case measure => simp [intOf]; omega
                  · have b1 : (t.kind == 1) = false := by rw [k2]; rfl
                    have b2 : (t.kind == 2) = true := by rw [k2]; rfl
                    rw [if_neg (fun h => by have := h.1; omega), if_pos k2] at hs
                    by_cases hneg : idxF ts t.text < 0
                    · rw [addF_miss hneg] at hs
                      have HSN := Aside0.mk hs
                      clear hs k2
                      go_wp2_with (first | (go_at_call 52; go_loud (refine (at1_c _ _ _ ts t.text _ (Kd.R_reads' HSa.out.terms).2.2).mono ?_; rintro e w5 ⟨rfl, rfl⟩)) | (at_builtin; go_loud (refine app_str (p := t.text) (base := w3.heap.size) (w0 := w3) (ok := fun k => some k ≠ (Value.slice An ns.length cn).ownBlock) rfl rfl HSa.out.terms HSa.out.below HSa.out.below.size (by have := HTL.out; omega) (fresh_ne HSa.out.names) rfl (by simp [Act.eval]) ?_; intro v4 w4 A4; obtain ⟨Av4, cv4, hv4⟩ := A4.shape; subst hv4; have HA := Aside0.mk (HSa.out.addTerm A4); have hh := blk_grown HSa.out.g A4.grown (Kd.R_ne HSa.out.terms HSa.out.g (by decide)); have d4 := (blk_cell hh 0).trans rfl; have f4 := blk_frozen hh 0; clear A4 hh)))
                      go_roundw
                      case rel => exact ⟨k + 1, ts ++ [t.text], _, by omega, by go_num, HSN, ⟨by rw [List.length_append]; have := HTL.out; simp; omega⟩, HA⟩
                      case measure => simp [intOf]; omega
                    · rw [addF_hit (by omega)] at hs
                      have HSN := Aside0.mk hs
                      clear hs k2
                      go_wp2_with (go_at_call 52; go_loud (refine (at1_c _ _ _ ts t.text _ (Kd.R_reads' HSa.out.terms).2.2).mono ?_; rintro e w5 ⟨rfl, rfl⟩))
                      go_roundw
                      case rel => exact ⟨k + 1, ts, _, by omega, by go_num, HSN, ⟨by have := HTL.out; omega⟩, HSa⟩
                      case measure => simp [intOf]; omega
                · have j4 : ¬ (k : Int) < (right.length : Int) := by omega
                  have hq := HSR.out
                  rw [List.drop_eq_nil_of_le (by omega)] at hq
                  have HSN := Aside0.mk (HSO.out ts hq.symm)
                  clear hq
                  go_wp2
                  go_roundw
                  case rel => exact ⟨i + 1, ts, _, by omega, by go_num, HSN, ⟨by have := HTL.out; omega⟩, HS⟩
                  case measure => simp [intOf]; omega
            · have j2 : ¬ (i : Int) < (alts.length : Int) := by omega
              have hq := HSC.out
              rw [List.drop_eq_nil_of_le (by omega)] at hq
              have hrr := HRR.out
              rw [← hq] at hrr
              have HRF : Aside0 ((if 40 < ns.length ∨ 40 < ts.length then .error (14, 0) else .ok ⟨ts, ns, rules1 ts ns alts []⟩) = ofF s) := ⟨hrr.symm⟩
              have htl : ts.length ≤ 480 := by have := HTL.out; omega
              have c1' := (blk_cell HS.out.g 0).trans rfl
              have c2' := (blk_cell HS.out.g 1).trans rfl
              clear hq hrr HRR HSC HTL
              by_cases hbig : 40 < ns.length ∨ 40 < ts.length
              · have HE := HRF.out
                rw [if_pos hbig] at HE
                have HRa := Aside0.mk (blk_below KR.out HS.out.below)
                have HBa := Aside0.mk (below_then HB3.out HB3.out.size HS.out.below)
                have HEE := Aside0.mk HE
                have e0 := (blk_cell HRa.out 0).trans rfl
                have e1 := (blk_cell HRa.out 1).trans rfl
                have e2 := (blk_cell HRa.out 2).trans rfl
                have e3 := (blk_cell HRa.out 3).trans rfl
                have e4 := (blk_cell HRa.out 4).trans rfl
                have f0 := blk_frozen HRa.out 0
                have f1 := blk_frozen HRa.out 1
                have f2 := blk_frozen HRa.out 2
                have f3 := blk_frozen HRa.out 3
                have f4 := blk_frozen HRa.out 4
                have hbd : (40 : Int) < (ns.length : Int) ∨ (¬ (40 : Int) < (ns.length : Int) ∧ (40 : Int) < (ts.length : Int)) := by omega
                clear HE hbig
                rcases hbd with g1 | ⟨g1, g2⟩
                all_goals
                  go_wp2
                  refine bodyPost_ret (results_of1 rfl (blk_set (blk_set (blk_set (blk_set (blk_set HRa.out 0 _) 1 _) 2 _) 3 _) 4 _)) rfl ⟨?_, below_set (below_set (below_set (below_set (below_set HBa.out (Nat.le_refl _) _ _) (Nat.le_refl _) _ _) (Nat.le_refl _) _ _) (Nat.le_refl _) _ _) (Nat.le_refl _) _ _⟩
                  rw [← HEE.out]
                  rfl
              · have HE := HRF.out
                rw [if_neg hbig] at HE
                have HRF := Aside0.mk HE
                have g1 : ¬ (40 : Int) < (ns.length : Int) := by omega
                have g2 : ¬ (40 : Int) < (ts.length : Int) := by omega
                obtain ⟨RS, hRS⟩ : ∃ RS, rules1 ts ns alts [] = RS := ⟨_, rfl⟩
                have HC0 : Aside0 (rules1 ts ns (alts.drop 0) [] = RS) := ⟨hRS⟩
                rw [hRS] at HRF
                clear HE hbig hRS
                go_wp2
                clear c1' c2' g1 g2
                go_loopw [10] (fun iv wr => ∃ (i : Nat) (rs : List Rule) (v3 : Value), i ≤ alts.length ∧ iv = .int .i64 i ∧ Aside0 (rules1 ts ns (alts.drop i) rs = RS) ∧ Aside0 (rs.length ≤ i) ∧ Aside0 (O1 w3 wr ts ns rs (.slice At ts.length ct) (.slice An ns.length cn) v3)) (fun iv _ => alts.length - (intOf iv).toNat)
                case atStart => exact ⟨0, [], _, Nat.zero_le _, rfl, HC0, ⟨Nat.le_refl _⟩, HS⟩
                case round =>
                  clear HS HC0 z0
                  obtain ⟨i, rs, v3, hi, rfl, HRS, HRL, HS⟩ := hrel
                  obtain ⟨A3, c3, rfl⟩ := Kd.R_slice HS.out.rules
                  have z0 := cell_at HS.out.below KB.out
                  by_cases hlt : i < alts.length
                  · obtain ⟨ad, A1, c1, eA, p1, p2, p3, p4, hle, hRt⟩ := at_alt HC.out i hlt
                    subst eA
                    have P2 := Aside0.mk p2
                    have P4 := Aside0.mk p4
                    have HRT := Aside0.mk hRt
                    have h8 := HSH.out (alts[i]'hlt) (List.getElem_mem _)
                    have HKI := Aside0.mk (HKN.out (alts[i]'hlt) (List.getElem_mem _))
                    have hs := (rules1_at hlt).symm.trans HRS.out
                    obtain ⟨a, ha⟩ : ∃ a, a = alts[i]'hlt := ⟨_, rfl⟩
                    rw [← ha] at P2 P4 HRT h8 HKI hs
                    have HRN := Aside0.mk hs
                    have j1 : (0 : Int) ≤ (i : Int) := by omega
                    have j2 : (i : Int) < (alts.length : Int) := by omega
                    have hix := idxF_ge ns a.left.text
                    have hwr1 : IntKind.i64.wrap ((ts.length : Int) + idxF ns a.left.text) = (ts.length : Int) + idxF ns a.left.text := IntWalk.i64_in _ (by omega)
                    have HSd := Aside0.mk HS.out.drew_
                    have HSe := Aside0.mk (HSd.out.alloc_ (.cells #[.int .i64 0, .slice none 0 0] 56 (0, 0)))
                    clear hs ha p1 p2 p3 p4 hle hRt HRS hix
                    go_wp2
                    refine start_ (n := 17) (S := fun w' => Below w3.heap.size w3 w' ∧ w'.heap[w3.heap.size]? = some (.cells #[.slice At ts.length ct, .slice An ns.length cn, .slice A3 rs.length c3] 25 (0, 0))) (ds := [16]) (lb 17 0x0) (by kernel_rfl) rfl (by kernel_rfl) (⟨HSd.out.below, HSd.out.g⟩) (fun hHeld => ?_)
                    refine pure_ (i := 0) (N := (some 144)) (v := ?_) (a' := ?_) (lb 17 0x1) rfl rfl (by kernel_rfl) (fun _ _ _ h => h) (Or.inl ⟨by rfl, ?_⟩) ?_ ?_
                    rotate_left
                    · (intro w'; go_simp; with_reducible rfl)
                    rotate_left
                    · (simp only [Act.put, List.setIfInBounds_toArray, List.set_cons_zero, List.set_cons_succ]; rfl)
                    refine pure_ (i := 3) (N := (some 147)) (v := ?_) (a' := ?_) (lb 17 0x9) rfl rfl (by kernel_rfl) (fun _ _ _ h => h) (Or.inl ⟨by rfl, ?_⟩) ?_ ?_
                    rotate_left
                    · (intro w'; go_simp; with_reducible rfl)
                    rotate_left
                    · (simp only [Act.put, List.setIfInBounds_toArray, List.set_cons_zero, List.set_cons_succ]; rfl)
                    refine pure_ (i := 5) (N := (some 149)) (v := ?_) (a' := ?_) (lb 17 0x29) rfl rfl (by kernel_rfl) (fun _ _ _ h => h) (Or.inl ⟨by rfl, ?_⟩) ?_ ?_
                    rotate_left
                    · (intro w'; go_simp; with_reducible rfl)
                    rotate_left
                    · (simp only [Act.put, List.setIfInBounds_toArray, List.set_cons_zero, List.set_cons_succ]; rfl)
                    refine pure_ (i := 7) (N := (some 151)) (v := ?_) (a' := ?_) (lb 17 0xa9) rfl rfl (by kernel_rfl) (fun _ _ _ h => h) (Or.inl ⟨by rfl, ?_⟩) ?_ ?_
                    rotate_left
                    · (intro w'; go_simp; with_reducible rfl)
                    rotate_left
                    · (simp only [Act.put, List.setIfInBounds_toArray, List.set_cons_zero, List.set_cons_succ]; rfl)
                    refine take_ (i := 1) (N := (some 145)) (v := ?_) (a' := ?_) (lb 17 0xab) rfl rfl (by kernel_rfl) (fun _ _ _ h => h) (Or.inl ⟨by rfl, ?_⟩) hHeld ?_ ?_
                    rotate_left
                    · (rintro w' ⟨hS, hG⟩; have d0 := (blk_cell hG 0).trans rfl; have d3 := (blk_cell hG 1).trans rfl; have d1 := cell_at hS KB.out; have d2 := cell_at hS P2.out; go_simp; with_reducible rfl)
                    rotate_left
                    · (simp only [Act.put, List.setIfInBounds_toArray, List.set_cons_zero, List.set_cons_succ]; rfl)
                    refine pure_ (i := 2) (N := (some 146)) (v := ?_) (a' := ?_) (lb 17 0xaf) rfl rfl (by kernel_rfl) (fun _ _ _ h => h) (Or.inl ⟨by rfl, ?_⟩) ?_ ?_
                    rotate_left
                    · (intro w'; go_simp; with_reducible rfl)
                    rotate_left
                    · (simp only [Act.put, List.setIfInBounds_toArray, List.set_cons_zero, List.set_cons_succ]; rfl)
                    refine take_ (i := 4) (N := (some 148)) (v := ?_) (a' := ?_) (lb 17 0xbf) rfl rfl (by kernel_rfl) (fun _ _ _ h => h) (Or.inl ⟨by rfl, ?_⟩) hHeld ?_ ?_
                    rotate_left
                    · (rintro w' ⟨hS, hG⟩; have d0 := (blk_cell hG 0).trans rfl; have d3 := (blk_cell hG 1).trans rfl; have d1 := cell_at hS KB.out; have d2 := cell_at hS P2.out; go_simp; with_reducible rfl)
                    rotate_left
                    · (simp only [Act.put, List.setIfInBounds_toArray, List.set_cons_zero, List.set_cons_succ]; rfl)
                    refine take_ (i := 6) (N := (some 150)) (v := ?_) (a' := ?_) (lb 17 0xff) rfl rfl (by kernel_rfl) (fun _ _ _ h => h) (Or.inl ⟨by rfl, ?_⟩) hHeld ?_ ?_
                    rotate_left
                    · (rintro w' ⟨hS, hG⟩; have d0 := (blk_cell hG 0).trans rfl; have d3 := (blk_cell hG 1).trans rfl; have d1 := cell_at hS KB.out; have d2 := cell_at hS P2.out; go_simp; with_reducible rfl)
                    rotate_left
                    · (simp only [Act.put, List.setIfInBounds_toArray, List.set_cons_zero, List.set_cons_succ]; rfl)
                    refine pure_ (i := 8) (N := (some 152)) (v := ?_) (a' := ?_) (lb 17 0x1ff) rfl rfl (by kernel_rfl) (fun _ _ _ h => h) (Or.inl ⟨by rfl, ?_⟩) ?_ ?_
                    rotate_left
                    · (intro w'; go_simp; with_reducible rfl)
                    rotate_left
                    · (simp only [Act.put, List.setIfInBounds_toArray, List.set_cons_zero, List.set_cons_succ]; rfl)
                    refine pure_ (i := 9) (N := (some 153)) (v := ?_) (a' := ?_) (lb 17 0x3ff) rfl rfl (by kernel_rfl) (fun _ _ _ h => h) (Or.inl ⟨by rfl, ?_⟩) ?_ ?_
                    rotate_left
                    · (intro w'; go_simp; with_reducible rfl)
                    rotate_left
                    · (simp only [Act.put, List.setIfInBounds_toArray, List.set_cons_zero, List.set_cons_succ]; rfl)
                    refine pure_ (i := 10) (N := (some 154)) (v := ?_) (a' := ?_) (lb 17 0x7ff) rfl rfl (by kernel_rfl) (fun _ _ _ h => h) (Or.inl ⟨by rfl, ?_⟩) ?_ ?_
                    rotate_left
                    · (intro w'; go_simp; with_reducible rfl)
                    rotate_left
                    · (simp only [Act.put, List.setIfInBounds_toArray, List.set_cons_zero, List.set_cons_succ]; rfl)
                    refine take_ (i := 11) (N := (some 155)) (v := ?_) (a' := ?_) (lb 17 0xfff) rfl rfl (by kernel_rfl) (fun _ _ _ h => h) (Or.inl ⟨by rfl, ?_⟩) hHeld ?_ ?_
                    rotate_left
                    · (rintro w' ⟨hS, hG⟩; have d0 := (blk_cell hG 0).trans rfl; have d3 := (blk_cell hG 1).trans rfl; have d1 := cell_at hS KB.out; have d2 := cell_at hS P2.out; go_simp; with_reducible rfl)
                    rotate_left
                    · (simp only [Act.put, List.setIfInBounds_toArray, List.set_cons_zero, List.set_cons_succ]; rfl)
                    refine join_ (σ := Unit) 1 (lb 17 0xffff) (fun _ => [(156, .int .i64 (idxF ns a.left.text)), (11, .pointer (some ⟨wr.heap.size, 0, none⟩)), (157, .int .i64 ((ts.length : Int) + idxF ns a.left.text)), (158, .agg #[.int .i64 ((ts.length : Int) + idxF ns a.left.text), .slice none 0 0])]) (fun _ w' => w' = ((wr.alloc (.cells #[.int .i64 0, .slice none 0 0] 56 (0, 0))).drew)) ?_ ?_
                    rotate_left
                    · intro hrest
                      simp only [putAll, Act.put, List.setIfInBounds_toArray, List.set_cons_zero, List.set_cons_succ] at hrest
                      refine two_ (i := 12) (j := 15) (Ni := (some 156)) (Nj := (some 11)) (lb 17 0x1fff) (lb 17 0x8fff) rfl rfl rfl rfl (by kernel_rfl) (by decide) (by decide) (fun K hK => ?_) (fun K hK => ?_)
                      · (refine goes_ Try.func52 (by kernel_rfl) rfl #[.slice An ns.length cn, .string a.left.text] (by rfl) rfl rfl (by simp [Act.eval]) ?_; refine (at1_c _ _ _ _ _ _ (Kd.R_reads' (by first | exact HSd.out.names | exact HSe.out.names)).2.2).mono ?_; rintro e w5 ⟨rfl, rfl⟩; refine ⟨_, rfl, ?_⟩; refine hK.out _ _ hHeld (fun hHeld => ?_))
                        clear hK K
                        refine norm_ (a' := ?_) ?_ ?_
                        rotate_left
                        · (show Act.put _ (some 156) _ = _; simp only [Act.put, List.setIfInBounds_toArray, List.set_cons_zero, List.set_cons_succ]; rfl)
                        refine pure_ (i := 13) (N := (some 157)) (v := ?_) (a' := ?_) (lb 17 0x3fff) rfl rfl (by kernel_rfl) (fun _ _ _ h => h) (Or.inl ⟨by rfl, ?_⟩) ?_ ?_
                        rotate_left
                        · (intro w'; go_simp; with_reducible rfl)
                        rotate_left
                        · (simp only [Act.put, List.setIfInBounds_toArray, List.set_cons_zero, List.set_cons_succ]; rfl)
                        refine pure_ (i := 14) (N := (some 158)) (v := ?_) (a' := ?_) (lb 17 0x7fff) rfl rfl (by kernel_rfl) (fun _ _ _ h => h) (Or.inl ⟨by rfl, ?_⟩) ?_ ?_
                        rotate_left
                        · (intro w'; go_simp; with_reducible rfl)
                        rotate_left
                        · (simp only [Act.put, List.setIfInBounds_toArray, List.set_cons_zero, List.set_cons_succ]; rfl)
                        refine one_ (i := 15) (N := (some 11)) (lb 17 0xffff) rfl rfl (by kernel_rfl) (by decide) (fun K hK => ?_)
                        refine value_ (w1 := ?_) (v := ?_) (by rfl) rfl ?_ ?_
                        rotate_left 2
                        · (go_simp; constructor; rfl; rfl)
                        refine hK.out _ _ (⟨below_alloc hHeld.1 _, blk_alloc hHeld.2 _⟩) (fun hHeld => ?_)
                        clear hK K
                        refine norm_ (a' := ?_) ?_ ?_
                        rotate_left
                        · (show Act.put _ (some 11) _ = _; simp only [Act.put, List.setIfInBounds_toArray, List.set_cons_zero, List.set_cons_succ]; rfl)
                        exact hrest () _ rfl
                      · refine value_ (w1 := ?_) (v := ?_) (by rfl) rfl ?_ ?_
                        rotate_left 2
                        · (go_simp; constructor; rfl; rfl)
                        refine hK.out _ _ (⟨below_alloc hHeld.1 _, blk_alloc hHeld.2 _⟩) (fun hHeld => ?_)
                        clear hK K
                        refine norm_ (a' := ?_) ?_ ?_
                        rotate_left
                        · (show Act.put _ (some 11) _ = _; simp only [Act.put, List.setIfInBounds_toArray, List.set_cons_zero, List.set_cons_succ]; rfl)
                        refine one_ (i := 12) (N := (some 156)) (lb 17 0x9fff) rfl rfl (by kernel_rfl) (by decide) (fun K hK => ?_)
                        (refine goes_ Try.func52 (by kernel_rfl) rfl #[.slice An ns.length cn, .string a.left.text] (by rfl) rfl rfl (by simp [Act.eval]) ?_; refine (at1_c _ _ _ _ _ _ (Kd.R_reads' (by first | exact HSd.out.names | exact HSe.out.names)).2.2).mono ?_; rintro e w5 ⟨rfl, rfl⟩; refine ⟨_, rfl, ?_⟩; refine hK.out _ _ hHeld (fun hHeld => ?_))
                        clear hK K
                        refine norm_ (a' := ?_) ?_ ?_
                        rotate_left
                        · (show Act.put _ (some 156) _ = _; simp only [Act.put, List.setIfInBounds_toArray, List.set_cons_zero, List.set_cons_succ]; rfl)
                        refine pure_ (i := 13) (N := (some 157)) (v := ?_) (a' := ?_) (lb 17 0xbfff) rfl rfl (by kernel_rfl) (fun _ _ _ h => h) (Or.inl ⟨by rfl, ?_⟩) ?_ ?_
                        rotate_left
                        · (intro w'; go_simp; with_reducible rfl)
                        rotate_left
                        · (simp only [Act.put, List.setIfInBounds_toArray, List.set_cons_zero, List.set_cons_succ]; rfl)
                        refine pure_ (i := 14) (N := (some 158)) (v := ?_) (a' := ?_) (lb 17 0xffff) rfl rfl (by kernel_rfl) (fun _ _ _ h => h) (Or.inl ⟨by rfl, ?_⟩) ?_ ?_
                        rotate_left
                        · (intro w'; go_simp; with_reducible rfl)
                        rotate_left
                        · (simp only [Act.put, List.setIfInBounds_toArray, List.set_cons_zero, List.set_cons_succ]; rfl)
                        exact hrest () _ rfl
                    rintro _ w' rfl
                    skip
                    skip
                    refine norm_ (a' := ?_) ?_ ?_
                    rotate_left
                    · (simp only [putAll, Act.put, List.setIfInBounds_toArray, List.set_cons_zero, List.set_cons_succ]; rfl)
                    refine last_ (i := 16) (N := none) (lb 17 0x1ffff) rfl rfl (by kernel_rfl) (by decide) (fun K hK => ?_)
                    skip
                    refine skip_ (w1 := ?_) (by rfl) rfl ?_ ?_
                    rotate_left
                    · (go_simp; rfl)
                    refine hK.out _ _ ?_
                    clear hK K
                    refine done_ (by kernel_rfl) ?_
                    go_wp2
                    obtain ⟨L, hL⟩ : ∃ L : Int, L = (ts.length : Int) + idxF ns a.left.text := ⟨_, rfl⟩
                    simp only [← hL]
                    have HLL := Aside0.mk hL
                    clear hL hwr1
                    obtain ⟨wo, hwo⟩ : ∃ wo : World, wo = wr := ⟨_, rfl⟩
                    subst hwo
                    have HB0 : Aside0 (Below wo.heap.size wo (wo.alloc (.cells #[.int .i64 L, .slice none 0 0] 56 (0, 0))).drew) := ⟨below_drew1 ((Below.refl _ _).alloc (Nat.le_refl _) _)⟩
                    have HJ0 : Aside0 ((wo.alloc (.cells #[.int .i64 L, .slice none 0 0] 56 (0, 0))).drew.heap[wo.heap.size]? = some (.cells #[.int .i64 L, .slice none 0 0] 56 (0, 0))) := ⟨blk_drew (blk_new wo _)⟩
                    have HU0 : Aside0 (kInt.R 3 (wo.alloc (.cells #[.int .i64 L, .slice none 0 0] 56 (0, 0))).drew wo.heap.size (fun _ => True) (.slice none 0 0) ((a.right.take 0).map (sym1 ts ns))) := ⟨Kd.R_nil _ _ _ _ _⟩
                    clear HSd HSe
                    go_loopw [12] (fun kv wr => ∃ (k : Nat) (U : Option Addr) (du : Nat), k ≤ a.right.length ∧ kv = .int .i64 k ∧ Aside0 (Below wo.heap.size wo wr) ∧ Aside0 (wr.heap[wo.heap.size]? = some (.cells #[.int .i64 L, .slice U k du] 56 (0, 0))) ∧ Aside0 (kInt.R 3 wr wo.heap.size (fun _ => True) (.slice U k du) ((a.right.take k).map (sym1 ts ns)))) (fun kv _ => a.right.length - (intOf kv).toNat)
                    case atStart => exact ⟨0, none, 0, Nat.zero_le _, rfl, HB0, HJ0, HU0⟩
                    case round =>
                      clear HB0 HJ0 HU0 z0
                      obtain ⟨k, U, du, hk, rfl, HB, HJ, HU⟩ := hrel
                      have HSw := Aside0.mk (HS.out.step_ HB.out)
                      have z0 := cell_at HSw.out.below KB.out
                      have z4 := cell_at HSw.out.below P4.out
                      by_cases hkl : k < a.right.length
                      · obtain ⟨td, eT, q0, q1, q2⟩ := at_tok HRT.out k hkl
                        subst eT
                        have y0 := cell_at HSw.out.below q0
                        have y1 := cell_at HSw.out.below q1
                        have y2 := cell_at HSw.out.below q2
                        have hkd := HKI.out (a.right[k]'hkl) (List.getElem_mem _)
                        obtain ⟨t, ht⟩ : ∃ t, t = a.right[k]'hkl := ⟨_, rfl⟩
                        have htk : (a.right.take (k + 1)).map (sym1 ts ns) = (a.right.take k).map (sym1 ts ns) ++ [sym1 ts ns t] := by rw [List.take_succ_eq_append_getElem hkl, List.map_append, ← ht]; rfl
                        rw [← ht] at y0 y1 y2 hkd
                        have HTK := Aside0.mk htk
                        have j3 : (0 : Int) ≤ (k : Int) := by omega
                        have j4 : (k : Int) < (a.right.length : Int) := by omega
                        have hxl : ((a.right.take k).map (sym1 ts ns)).length = k := by rw [List.length_map, List.length_take]; omega
                        have HXL := Aside0.mk hxl
                        have HTW := Aside0.mk (blk_drew (blk_new wr (.cells #[.int .i64 t.kind, .string t.text, .int .i64 t.pos] 49 (0, 0))))
                        have HSa := Aside0.mk (HSw.out.alloc_ (.cells #[.int .i64 t.kind, .string t.text, .int .i64 t.pos] 49 (0, 0))).drew_
                        have HJa := Aside0.mk (blk_drew (blk_alloc HJ.out (.cells #[.int .i64 t.kind, .string t.text, .int .i64 t.pos] 49 (0, 0))))
                        have HUa := Aside0.mk (Kd.R_drew (Kd.R_alloc HU.out (.cells #[.int .i64 t.kind, .string t.text, .int .i64 t.pos] 49 (0, 0))))
                        have HBa := Aside0.mk (below_drew1 (HB.out.alloc HB.out.size (.cells #[.int .i64 t.kind, .string t.text, .int .i64 t.pos] 49 (0, 0))))
                        have hwi := HB.out.size
                        clear q0 q1 q2 ht htk hxl
                        rcases hkd with k1 | k2
                        · have b1 : (t.kind == 1) = true := by rw [k1]; rfl
                          have HSY : Aside0 (sym1 ts ns t = (ts.length : Int) + idxF ns t.text) := ⟨by unfold sym1; rw [if_pos k1]⟩
                          have hix := idxF_ge ns t.text
                          have hwr1 : IntKind.i64.wrap ((ts.length : Int) + idxF ns t.text) = (ts.length : Int) + idxF ns t.text := IntWalk.i64_in _ (by omega)
                          clear k1 hix
                          go_wp2
                          refine start_ (n := 15) (S := fun w' => w'.heap[w3.heap.size]? = some (.cells #[.slice At ts.length ct, .slice An ns.length cn, .slice A3 rs.length c3] 25 (0, 0)) ∧ w'.heap[wo.heap.size]? = some (.cells #[.int .i64 L, .slice U k du] 56 (0, 0)) ∧ w'.heap[wr.heap.size]? = some (.cells #[.int .i64 t.kind, .string t.text, .int .i64 t.pos] 49 (0, 0))) (ds := [14]) (lb 15 0x0) (by kernel_rfl) rfl (by kernel_rfl) (⟨HSa.out.g, HJa.out, HTW.out⟩) (fun hHeld => ?_)
                          refine pure_ (i := 0) (N := (some 182)) (v := ?_) (a' := ?_) (lb 15 0x1) rfl rfl (by kernel_rfl) (fun _ _ _ h => h) (Or.inl ⟨by rfl, ?_⟩) ?_ ?_
                          rotate_left
                          · (intro w'; go_simp; with_reducible rfl)
                          rotate_left
                          · (simp only [Act.put, List.setIfInBounds_toArray, List.set_cons_zero, List.set_cons_succ]; rfl)
                          refine pure_ (i := 2) (N := (some 184)) (v := ?_) (a' := ?_) (lb 15 0x5) rfl rfl (by kernel_rfl) (fun _ _ _ h => h) (Or.inl ⟨by rfl, ?_⟩) ?_ ?_
                          rotate_left
                          · (intro w'; go_simp; with_reducible rfl)
                          rotate_left
                          · (simp only [Act.put, List.setIfInBounds_toArray, List.set_cons_zero, List.set_cons_succ]; rfl)
                          refine pure_ (i := 5) (N := (some 187)) (v := ?_) (a' := ?_) (lb 15 0x25) rfl rfl (by kernel_rfl) (fun _ _ _ h => h) (Or.inl ⟨by rfl, ?_⟩) ?_ ?_
                          rotate_left
                          · (intro w'; go_simp; with_reducible rfl)
                          rotate_left
                          · (simp only [Act.put, List.setIfInBounds_toArray, List.set_cons_zero, List.set_cons_succ]; rfl)
                          refine pure_ (i := 7) (N := (some 189)) (v := ?_) (a' := ?_) (lb 15 0xa5) rfl rfl (by kernel_rfl) (fun _ _ _ h => h) (Or.inl ⟨by rfl, ?_⟩) ?_ ?_
                          rotate_left
                          · (intro w'; go_simp; with_reducible rfl)
                          rotate_left
                          · (simp only [Act.put, List.setIfInBounds_toArray, List.set_cons_zero, List.set_cons_succ]; rfl)
                          refine take_ (i := 1) (N := (some 183)) (v := ?_) (a' := ?_) (lb 15 0xa7) rfl rfl (by kernel_rfl) (fun _ _ _ h => h) (Or.inl ⟨by rfl, ?_⟩) hHeld ?_ ?_
                          rotate_left
                          · (rintro w' ⟨s0, s1, s2⟩; have d0 := (blk_cell s0 0).trans rfl; have d1 := (blk_cell s0 1).trans rfl; have d2 := (blk_cell s1 1).trans rfl; have d3 := (blk_cell s2 1).trans rfl; go_simp; with_reducible rfl)
                          rotate_left
                          · (simp only [Act.put, List.setIfInBounds_toArray, List.set_cons_zero, List.set_cons_succ]; rfl)
                          refine take_ (i := 3) (N := (some 185)) (v := ?_) (a' := ?_) (lb 15 0xaf) rfl rfl (by kernel_rfl) (fun _ _ _ h => h) (Or.inl ⟨by rfl, ?_⟩) hHeld ?_ ?_
                          rotate_left
                          · (rintro w' ⟨s0, s1, s2⟩; have d0 := (blk_cell s0 0).trans rfl; have d1 := (blk_cell s0 1).trans rfl; have d2 := (blk_cell s1 1).trans rfl; have d3 := (blk_cell s2 1).trans rfl; go_simp; with_reducible rfl)
                          rotate_left
                          · (simp only [Act.put, List.setIfInBounds_toArray, List.set_cons_zero, List.set_cons_succ]; rfl)
                          refine pure_ (i := 4) (N := (some 186)) (v := ?_) (a' := ?_) (lb 15 0xbf) rfl rfl (by kernel_rfl) (fun _ _ _ h => h) (Or.inl ⟨by rfl, ?_⟩) ?_ ?_
                          rotate_left
                          · (intro w'; go_simp; with_reducible rfl)
                          rotate_left
                          · (simp only [Act.put, List.setIfInBounds_toArray, List.set_cons_zero, List.set_cons_succ]; rfl)
                          refine take_ (i := 6) (N := (some 188)) (v := ?_) (a' := ?_) (lb 15 0xff) rfl rfl (by kernel_rfl) (fun _ _ _ h => h) (Or.inl ⟨by rfl, ?_⟩) hHeld ?_ ?_
                          rotate_left
                          · (rintro w' ⟨s0, s1, s2⟩; have d0 := (blk_cell s0 0).trans rfl; have d1 := (blk_cell s0 1).trans rfl; have d2 := (blk_cell s1 1).trans rfl; have d3 := (blk_cell s2 1).trans rfl; go_simp; with_reducible rfl)
                          rotate_left
                          · (simp only [Act.put, List.setIfInBounds_toArray, List.set_cons_zero, List.set_cons_succ]; rfl)
                          refine take_ (i := 8) (N := (some 190)) (v := ?_) (a' := ?_) (lb 15 0x1ff) rfl rfl (by kernel_rfl) (fun _ _ _ h => h) (Or.inl ⟨by rfl, ?_⟩) hHeld ?_ ?_
                          rotate_left
                          · (rintro w' ⟨s0, s1, s2⟩; have d0 := (blk_cell s0 0).trans rfl; have d1 := (blk_cell s0 1).trans rfl; have d2 := (blk_cell s1 1).trans rfl; have d3 := (blk_cell s2 1).trans rfl; go_simp; with_reducible rfl)
                          rotate_left
                          · (simp only [Act.put, List.setIfInBounds_toArray, List.set_cons_zero, List.set_cons_succ]; rfl)
                          refine one_ (i := 9) (N := (some 191)) (lb 15 0x3ff) rfl rfl (by kernel_rfl) (by decide) (fun K hK => ?_)
                          (refine goes_ Try.func52 (by kernel_rfl) rfl #[.slice An ns.length cn, .string t.text] (by rfl) rfl rfl (by simp [Act.eval]) ?_; refine (at1_c _ _ _ _ _ _ (Kd.R_reads' HSa.out.names).2.2).mono ?_; rintro e w5 ⟨rfl, rfl⟩; refine ⟨_, rfl, ?_⟩; refine hK.out _ _ hHeld (fun hHeld => ?_))
                          skip
                          clear hK K
                          refine norm_ (a' := ?_) ?_ ?_
                          rotate_left
                          · (show Act.put _ (some 191) _ = _; simp only [Act.put, List.setIfInBounds_toArray, List.set_cons_zero, List.set_cons_succ]; rfl)
                          refine pure_ (i := 10) (N := (some 192)) (v := ?_) (a' := ?_) (lb 15 0x7ff) rfl rfl (by kernel_rfl) (fun _ _ _ h => h) (Or.inl ⟨by rfl, ?_⟩) ?_ ?_
                          rotate_left
                          · (intro w'; go_simp; with_reducible rfl)
                          rotate_left
                          · (simp only [Act.put, List.setIfInBounds_toArray, List.set_cons_zero, List.set_cons_succ]; rfl)
                          refine one_ (i := 11) (N := (some 193)) (lb 15 0xfff) rfl rfl (by kernel_rfl) (by decide) (fun K hK => ?_)
                          refine value_ (w1 := ?_) (v := ?_) (by rfl) rfl ?_ ?_
                          rotate_left 2
                          · (go_simp; constructor; rfl; rfl)
                          refine hK.out _ _ (⟨blk_alloc hHeld.1 _, blk_alloc hHeld.2.1 _, blk_alloc hHeld.2.2 _⟩) (fun hHeld => ?_)
                          clear hK K
                          refine norm_ (a' := ?_) ?_ ?_
                          rotate_left
                          · (show Act.put _ (some 193) _ = _; simp only [Act.put, List.setIfInBounds_toArray, List.set_cons_zero, List.set_cons_succ]; rfl)
                          refine one_ (i := 12) (N := (some 194)) (lb 15 0x1fff) rfl rfl (by kernel_rfl) (by decide) (fun K hK => ?_)
                          (refine app_int_step (w0 := wo) (base := wo.heap.size) (ok := fun _ => True) (p := (ts.length : Int) + idxF ns t.text) (by rfl) rfl HUa.out HBa.out HBa.out.size (by rw [HXL.out]; omega) (fun _ _ => trivial) (by simp [Act.eval]) (by simp [Act.eval]) ?_; intro v4 w4 A4; obtain ⟨Av4, cv4, hv4⟩ := A4.shape; rw [HXL.out] at hv4; subst hv4; have hg4 := blk_grown HSa.out.g A4.grown (Kd.R_ne HUa.out HSa.out.g (by decide)); have hj4 := blk_grown HJa.out A4.grown (Kd.R_ne HUa.out HJa.out (by decide)); have ht4 := blk_grown HTW.out A4.grown (Kd.R_ne HUa.out HTW.out (by decide)); have d4 := (blk_cell hj4 1).trans rfl; have f4 := blk_frozen hj4 1; have HH4 := Aside0.mk (And.intro hg4 (And.intro hj4 ht4)); have HBn := Aside0.mk (below_set A4.below (Nat.le_refl _) 1 (.slice Av4 (k + 1) cv4)); have HJn := Aside0.mk ((blk_set hj4 1 (.slice Av4 (k + 1) cv4)).trans rfl : _ = some (.cells #[.int .i64 L, .slice Av4 (k + 1) cv4] 56 (0, 0))); have hUn := Kd.R_set A4.row hj4 (by decide) 1 (.slice Av4 (k + 1) cv4); rw [← HSY.out, ← HTK.out] at hUn; have HUn := Aside0.mk hUn; clear A4 hg4 hj4 ht4 hUn; refine hK.out _ _ HH4.out (fun hHeld => ?_))
                          skip
                          clear hK K
                          refine norm_ (a' := ?_) ?_ ?_
                          rotate_left
                          · (show Act.put _ (some 194) _ = _; simp only [Act.put, List.setIfInBounds_toArray, List.set_cons_zero, List.set_cons_succ]; rfl)
                          refine pure_ (i := 13) (N := (some 195)) (v := ?_) (a' := ?_) (lb 15 0x3fff) rfl rfl (by kernel_rfl) (fun _ _ _ h => h) (Or.inl ⟨by rfl, ?_⟩) ?_ ?_
                          rotate_left
                          · (intro w'; go_simp; with_reducible rfl)
                          rotate_left
                          · (simp only [Act.put, List.setIfInBounds_toArray, List.set_cons_zero, List.set_cons_succ]; rfl)
                          refine last_ (i := 14) (N := none) (lb 15 0x7fff) rfl rfl (by kernel_rfl) (by decide) (fun K hK => ?_)
                          skip
                          refine skip_ (w1 := ?_) (by rfl) rfl ?_ ?_
                          rotate_left
                          · (go_simp; rfl)
                          refine hK.out _ _ ?_
                          clear hK K
                          refine done_ (by kernel_rfl) ?_
                          go_wp2
                          go_roundw
                          case rel => exact ⟨k + 1, Av4, cv4, by omega, by go_num, HBn, HJn, HUn⟩
                          case measure => simp [intOf]; omega
                        · have b1 : (t.kind == 1) = false := by rw [k2]; rfl
                          have HSY : Aside0 (sym1 ts ns t = idxF ts t.text) := ⟨by unfold sym1; rw [if_neg (by omega)]⟩
                          clear k2
                          go_wp2
                          refine start_ (n := 11) (S := fun w' => w'.heap[w3.heap.size]? = some (.cells #[.slice At ts.length ct, .slice An ns.length cn, .slice A3 rs.length c3] 25 (0, 0)) ∧ w'.heap[wo.heap.size]? = some (.cells #[.int .i64 L, .slice U k du] 56 (0, 0)) ∧ w'.heap[wr.heap.size]? = some (.cells #[.int .i64 t.kind, .string t.text, .int .i64 t.pos] 49 (0, 0))) (ds := [10]) (lb 11 0x0) (by kernel_rfl) rfl (by kernel_rfl) (⟨HSa.out.g, HJa.out, HTW.out⟩) (fun hHeld => ?_)
                          refine pure_ (i := 0) (N := (some 196)) (v := ?_) (a' := ?_) (lb 11 0x1) rfl rfl (by kernel_rfl) (fun _ _ _ h => h) (Or.inl ⟨by rfl, ?_⟩) ?_ ?_
                          rotate_left
                          · (intro w'; go_simp; with_reducible rfl)
                          rotate_left
                          · (simp only [Act.put, List.setIfInBounds_toArray, List.set_cons_zero, List.set_cons_succ]; rfl)
                          refine pure_ (i := 2) (N := (some 198)) (v := ?_) (a' := ?_) (lb 11 0x5) rfl rfl (by kernel_rfl) (fun _ _ _ h => h) (Or.inl ⟨by rfl, ?_⟩) ?_ ?_
                          rotate_left
                          · (intro w'; go_simp; with_reducible rfl)
                          rotate_left
                          · (simp only [Act.put, List.setIfInBounds_toArray, List.set_cons_zero, List.set_cons_succ]; rfl)
                          refine pure_ (i := 4) (N := (some 200)) (v := ?_) (a' := ?_) (lb 11 0x15) rfl rfl (by kernel_rfl) (fun _ _ _ h => h) (Or.inl ⟨by rfl, ?_⟩) ?_ ?_
                          rotate_left
                          · (intro w'; go_simp; with_reducible rfl)
                          rotate_left
                          · (simp only [Act.put, List.setIfInBounds_toArray, List.set_cons_zero, List.set_cons_succ]; rfl)
                          refine take_ (i := 1) (N := (some 197)) (v := ?_) (a' := ?_) (lb 11 0x17) rfl rfl (by kernel_rfl) (fun _ _ _ h => h) (Or.inl ⟨by rfl, ?_⟩) hHeld ?_ ?_
                          rotate_left
                          · (rintro w' ⟨s0, s1, s2⟩; have d0 := (blk_cell s0 0).trans rfl; have d2 := (blk_cell s1 1).trans rfl; have d3 := (blk_cell s2 1).trans rfl; go_simp; with_reducible rfl)
                          rotate_left
                          · (simp only [Act.put, List.setIfInBounds_toArray, List.set_cons_zero, List.set_cons_succ]; rfl)
                          refine take_ (i := 3) (N := (some 199)) (v := ?_) (a' := ?_) (lb 11 0x1f) rfl rfl (by kernel_rfl) (fun _ _ _ h => h) (Or.inl ⟨by rfl, ?_⟩) hHeld ?_ ?_
                          rotate_left
                          · (rintro w' ⟨s0, s1, s2⟩; have d0 := (blk_cell s0 0).trans rfl; have d2 := (blk_cell s1 1).trans rfl; have d3 := (blk_cell s2 1).trans rfl; go_simp; with_reducible rfl)
                          rotate_left
                          · (simp only [Act.put, List.setIfInBounds_toArray, List.set_cons_zero, List.set_cons_succ]; rfl)
                          refine take_ (i := 5) (N := (some 201)) (v := ?_) (a' := ?_) (lb 11 0x3f) rfl rfl (by kernel_rfl) (fun _ _ _ h => h) (Or.inl ⟨by rfl, ?_⟩) hHeld ?_ ?_
                          rotate_left
                          · (rintro w' ⟨s0, s1, s2⟩; have d0 := (blk_cell s0 0).trans rfl; have d2 := (blk_cell s1 1).trans rfl; have d3 := (blk_cell s2 1).trans rfl; go_simp; with_reducible rfl)
                          rotate_left
                          · (simp only [Act.put, List.setIfInBounds_toArray, List.set_cons_zero, List.set_cons_succ]; rfl)
                          refine one_ (i := 6) (N := (some 202)) (lb 11 0x7f) rfl rfl (by kernel_rfl) (by decide) (fun K hK => ?_)
                          (refine goes_ Try.func52 (by kernel_rfl) rfl #[.slice At ts.length ct, .string t.text] (by rfl) rfl rfl (by simp [Act.eval]) ?_; refine (at1_c _ _ _ _ _ _ (Kd.R_reads' HSa.out.terms).2.2).mono ?_; rintro e w5 ⟨rfl, rfl⟩; refine ⟨_, rfl, ?_⟩; refine hK.out _ _ hHeld (fun hHeld => ?_))
                          skip
                          clear hK K
                          refine norm_ (a' := ?_) ?_ ?_
                          rotate_left
                          · (show Act.put _ (some 202) _ = _; simp only [Act.put, List.setIfInBounds_toArray, List.set_cons_zero, List.set_cons_succ]; rfl)
                          refine one_ (i := 7) (N := (some 203)) (lb 11 0xff) rfl rfl (by kernel_rfl) (by decide) (fun K hK => ?_)
                          refine value_ (w1 := ?_) (v := ?_) (by rfl) rfl ?_ ?_
                          rotate_left 2
                          · (go_simp; constructor; rfl; rfl)
                          refine hK.out _ _ (⟨blk_alloc hHeld.1 _, blk_alloc hHeld.2.1 _, blk_alloc hHeld.2.2 _⟩) (fun hHeld => ?_)
                          clear hK K
                          refine norm_ (a' := ?_) ?_ ?_
                          rotate_left
                          · (show Act.put _ (some 203) _ = _; simp only [Act.put, List.setIfInBounds_toArray, List.set_cons_zero, List.set_cons_succ]; rfl)
                          refine one_ (i := 8) (N := (some 204)) (lb 11 0x1ff) rfl rfl (by kernel_rfl) (by decide) (fun K hK => ?_)
                          (refine app_int_step (w0 := wo) (base := wo.heap.size) (ok := fun _ => True) (p := idxF ts t.text) (by rfl) rfl HUa.out HBa.out HBa.out.size (by rw [HXL.out]; omega) (fun _ _ => trivial) (by simp [Act.eval]) (by simp [Act.eval]) ?_; intro v4 w4 A4; obtain ⟨Av4, cv4, hv4⟩ := A4.shape; rw [HXL.out] at hv4; subst hv4; have hg4 := blk_grown HSa.out.g A4.grown (Kd.R_ne HUa.out HSa.out.g (by decide)); have hj4 := blk_grown HJa.out A4.grown (Kd.R_ne HUa.out HJa.out (by decide)); have ht4 := blk_grown HTW.out A4.grown (Kd.R_ne HUa.out HTW.out (by decide)); have d4 := (blk_cell hj4 1).trans rfl; have f4 := blk_frozen hj4 1; have HH4 := Aside0.mk (And.intro hg4 (And.intro hj4 ht4)); have HBn := Aside0.mk (below_set A4.below (Nat.le_refl _) 1 (.slice Av4 (k + 1) cv4)); have HJn := Aside0.mk ((blk_set hj4 1 (.slice Av4 (k + 1) cv4)).trans rfl : _ = some (.cells #[.int .i64 L, .slice Av4 (k + 1) cv4] 56 (0, 0))); have hUn := Kd.R_set A4.row hj4 (by decide) 1 (.slice Av4 (k + 1) cv4); rw [← HSY.out, ← HTK.out] at hUn; have HUn := Aside0.mk hUn; clear A4 hg4 hj4 ht4 hUn; refine hK.out _ _ HH4.out (fun hHeld => ?_))
                          skip
                          clear hK K
                          refine norm_ (a' := ?_) ?_ ?_
                          rotate_left
                          · (show Act.put _ (some 204) _ = _; simp only [Act.put, List.setIfInBounds_toArray, List.set_cons_zero, List.set_cons_succ]; rfl)
                          refine pure_ (i := 9) (N := (some 205)) (v := ?_) (a' := ?_) (lb 11 0x3ff) rfl rfl (by kernel_rfl) (fun _ _ _ h => h) (Or.inl ⟨by rfl, ?_⟩) ?_ ?_
                          rotate_left
                          · (intro w'; go_simp; with_reducible rfl)
                          rotate_left
                          · (simp only [Act.put, List.setIfInBounds_toArray, List.set_cons_zero, List.set_cons_succ]; rfl)
                          refine last_ (i := 10) (N := none) (lb 11 0x7ff) rfl rfl (by kernel_rfl) (by decide) (fun K hK => ?_)
                          skip
                          refine skip_ (w1 := ?_) (by rfl) rfl ?_ ?_
                          rotate_left
                          · (go_simp; rfl)
                          refine hK.out _ _ ?_
                          clear hK K
                          refine done_ (by kernel_rfl) ?_
                          go_wp2
                          go_roundw
                          case rel => exact ⟨k + 1, Av4, cv4, by omega, by go_num, HBn, HJn, HUn⟩
                          case measure => simp [intOf]; omega
                      · have j4 : ¬ (k : Int) < (a.right.length : Int) := by omega
                        obtain rfl : k = a.right.length := by omega
                        have hu := HU.out
                        rw [List.take_of_length_le (Nat.le_refl _)] at hu
                        have hru : (⟨L, a.right.map (sym1 ts ns)⟩ : Rule) = rule1 ts ns a := by rw [rule1, HLL.out]
                        obtain ⟨R, hR⟩ : ∃ R, R = a.right.map (sym1 ts ns) := ⟨_, rfl⟩
                        have hRl : a.right.length = R.length := by rw [hR, List.length_map]
                        rw [← hR] at hu hru
                        have HRU := Aside0.mk hru
                        have HRI := Aside0.mk hu
                        have HLR := Aside0.mk hRl
                        have HJR := HJ.out
                        rw [hRl] at HJR
                        rw [hRl] at hu
                        have HI := Aside0.mk hu
                        have r0 := (blk_cell HJR 0).trans rfl
                        have r1 := (blk_cell HJR 1).trans rfl
                        have r2 := (blk_cell HSw.out.g 2).trans rfl
                        have HJ2 := Aside0.mk HJR
                        clear hu hru hR HJR HU HJ HRI
                        have hpush : pushF rs (rule1 ts ns a) = (if (rs.any fun x => decide (x = ⟨L, R⟩)) = true then rs else rs ++ [⟨L, R⟩]) := by rw [← HRU.out]; rfl
                        have HRP := HRN.out
                        rw [hpush] at HRP
                        clear hpush
                        cases hany : (rs.any fun x => decide (x = (⟨L, R⟩ : Rule))) with
                        | true =>
                          rw [hany, if_pos rfl] at HRP
                          have HRQ := Aside0.mk HRP
                          have HAN := Lib.hid hany
                          clear HRP hany
                          go_wp2_with (go_at_call 53; go_loud (refine (has1_c A3 U c3 du rs.length rs ⟨L, R⟩ _ (Kd.R_reads' HSw.out.rules).2.2 (Kd.R_reads' HI.out).2.2).mono ?_; rw [HAN.out]; rintro e w6 ⟨rfl, hb6⟩; have HS3 := Aside0.mk (HSw.out.step_ hb6); clear hb6))
                          go_roundw
                          case rel => exact ⟨i + 1, rs, _, by omega, by go_num, HRQ, ⟨by have := HRL.out; omega⟩, HS3⟩
                          case measure => simp [intOf]; omega
                        | false =>
                          rw [hany, if_neg (by simp)] at HRP
                          have HRQ := Aside0.mk HRP
                          have HAN := Lib.hid hany
                          clear HRP hany
                          go_wp2_with (first | (have _hq := HS3.out; at_builtin; go_loud (refine app_rule (w0 := w3) (base := w3.heap.size) (xs := rs) (p := ⟨L, R⟩) (ok := fun _ => True) rfl rfl HS3.out.rules (Kd.R_mono (Kd.R_apartR HI3.out HS3.out.rules (by decide)) (fun _ h => h.2)) HS3.out.below HS3.out.below.size (by have := HRL.out; omega) rfl (by simp [Act.eval]) ?_; intro v7 w7 A7; obtain ⟨Av7, cv7, rfl⟩ := A7.shape; have HS4 := Aside0.mk (HS3.out.addRule A7); have G7 := blk_grown HS3.out.g A7.grown (Kd.R_ne HS3.out.rules HS3.out.g (by decide)); have e1 := (blk_cell G7 2).trans rfl; have e2 := blk_frozen G7 2; clear A7 G7)) | (go_at_call 53; go_loud (refine (has1_c A3 U c3 du rs.length rs ⟨L, R⟩ _ (Kd.R_reads' HSw.out.rules).2.2 (Kd.R_reads' HI.out).2.2).mono ?_; rw [HAN.out]; rintro e w6 ⟨rfl, hb6⟩; have HS3 := Aside0.mk (HSw.out.step_ hb6); have HI3 := Aside0.mk (Kd.R_lower (base' := w3.heap.size) (Kd.R_below HI.out hb6) HS.out.below.size); have HJ3 := blk_below HJ2.out hb6; have s0 := (blk_cell HJ3 0).trans rfl; have s1 := (blk_cell HJ3 1).trans rfl; have s2 := (blk_cell HS3.out.g 2).trans rfl; clear hb6 HJ3)))
                          go_roundw
                          case rel => exact ⟨i + 1, rs ++ [⟨L, R⟩], _, by omega, by go_num, HRQ, ⟨by rw [List.length_append]; have := HRL.out; simp; omega⟩, HS4⟩
                          case measure => simp [intOf]; omega
                  · have j2 : ¬ (i : Int) < (alts.length : Int) := by omega
                    have hq := HRS.out
                    rw [List.drop_eq_nil_of_le (by omega)] at hq
                    have hq2 : rs = RS := hq
                    have HE : Aside0 (ofF s = .ok ⟨ts, ns, rs⟩) := ⟨by rw [hq2]; exact HRF.out.symm⟩
                    have HRa := Aside0.mk (blk_below KR.out HS.out.below)
                    have HBa := Aside0.mk (below_then HB3.out HB3.out.size HS.out.below)
                    have e0 := (blk_cell HRa.out 0).trans rfl
                    have e1 := (blk_cell HRa.out 1).trans rfl
                    have e2 := (blk_cell HRa.out 2).trans rfl
                    have e3 := (blk_cell HRa.out 3).trans rfl
                    have e4 := (blk_cell HRa.out 4).trans rfl
                    have f0 := blk_frozen HRa.out 0
                    have f1 := blk_frozen HRa.out 1
                    have f2 := blk_frozen HRa.out 2
                    have f3 := blk_frozen HRa.out 3
                    have f4 := blk_frozen HRa.out 4
                    have c1' := (blk_cell HS.out.g 0).trans rfl
                    have c2' := (blk_cell HS.out.g 1).trans rfl
                    have c3' := (blk_cell HS.out.g 2).trans rfl
                    clear hq hq2 HRS HRF
                    go_wp2
                    refine bodyPost_ret (results_of1 rfl (blk_set (blk_set (blk_set (blk_set (blk_set HRa.out 0 _) 1 _) 2 _) 3 _) 4 _)) rfl ⟨?_, below_set (below_set (below_set (below_set (below_set HBa.out (Nat.le_refl _) _ _) (Nat.le_refl _) _ _) (Nat.le_refl _) _ _) (Nat.le_refl _) _ _) (Nat.le_refl _) _ _⟩
                    rw [HE.out]
                    exact ⟨At, An, A3, ct, cn, c3, rfl, (of1_rep HS.out HRa.out _ _ _ _ _).2.2.2⟩
end Go.Proofs.Ytphmmppmhphgeaa
